/- Mark, walked. -/
import Derived.Test.YtomfknblehkocaaBM
namespace Go.Proofs.Ytomfknblehkocaa.C
open Go.RowKit Go.Proofs.YtomfknblehkocaaW.PrintWords Go.Proofs.YtomfknblehkocaaW.PrintLast
set_option linter.unusedVariables false
set_option linter.unusedSimpArgs false
section
variable {w : World} {base : Nat} {own : Nat → Nat} {g : Nat} {b : Bk} {gp gl : Nat} {vc vd : Value} {lv : List Value}
theorem fresh_len (b : Bk) (id : Int) (p : Nat) (x : List S45) (hx : partsRs x ≤ 100000) : ((b.freshed id).logs.getD p []).length + x.length ≤ 1000000000000 := by
  have h1 : (b.freshed id).logs.getD p [] = [] := by
    unfold Bk.freshed
    rw [List.getD_eq_getElem?_getD, List.getElem?_replicate]
    split <;> rfl
  have h2 := partsRs_len x
  rw [h1, List.length_nil]
  omega
set_option maxRecDepth 100000 in
set_option maxHeartbeats 4000000 in
theorem mark20_port (h : BkAt w base own g b gp gl vc vd lv) (hbase : base ≤ w.heap.size) (port id : Int) (x : List S45) (Ax : Option Addr) (cx : Nat) (hx : Away k45 own w Ax x) (hcx : x.length ≤ cx) (hpx : partsRs x ≤ 100000) (s : S34) (As : Option Addr) (cs : Nat) (hs : Away k104 own w As s.f1) (hcs : s.f1.length ≤ cs) (hps : partsC s.f1 ≤ 100000) (y : List S45) (Ay : Option Addr) (cy : Nat) (hy : Away k45 own w Ay y) (hcy : y.length ≤ cy) (hpy : partsRs y ≤ 100000) (hll : ∀ i, (b.logs.getD i []).length + x.length ≤ 1000000000000) (hm : b.mode = 1 ∨ b.mode = 2 ∨ b.mode = 3) (hk : b.knows port = false) :
    Calls Try.prog 20 #[.pointer (some ⟨g, 0, none⟩), .int .i64 port, .int .i64 id, .slice Ax x.length cx, .agg #[.int .i64 s.f0, .slice As s.f1.length cs], .slice Ay y.length cy] w fun e w' => e = .returned (.tuple #[.bool false, .int .i64 132]) ∧ BkPost base own g b w w' := by
  have H := Lib.hid h
  have Hbase := Lib.hid hbase
  obtain ⟨l1, l2, l3⟩ := h.lts
  have Hs := Lib.hid hs
  have Hcs := Lib.hid hcs
  have Hps := Lib.hid hps
  have Hx := Lib.hid hx
  have Hcx := Lib.hid hcx
  have Hpx := Lib.hid hpx
  have Hy := Lib.hid hy
  have Hcy := Lib.hid hcy
  have Hpy := Lib.hid hpy
  have Hll := Lib.hid hll
  have HM := Lib.hid hm
  have U0 : Hid (Upd own w own (w.alloc (.cells #[.int .i64 s.f0, .slice As s.f1.length cs] 34))) := Upd.of_below ((Below.refl _ _).alloc (Nat.le_refl _) _) (fun _ _ => rfl)
  have H0 : Hid (BkAt (w.alloc (.cells #[.int .i64 s.f0, .slice As s.f1.length cs] 34)) base own g b gp gl vc vd lv) := h.below ((Below.refl _ _).alloc (Nat.le_refl _) _)
  have HK := Lib.hid (known39 H0.out port)
  have HH := Lib.hid (held29 H0.out port)
  rw [hk] at HK
  clear h hbase hs hcs hps hx hcx hpx hy hcy hpy hll hm
  go_enter Try.func20, Try.ntmps20
  go_wp2_with (first
    | (go_at_call 39; refine HK.out.mono ?_; rintro e w' ⟨rfl, rfl⟩)
    | (go_at_call 29; refine HH.out.mono ?_; rintro e w' ⟨rfl, rfl⟩))
  go_ret2
  exact ⟨rfl, own, ⟨_, _, _, _, _, H0.out⟩, U0.out⟩
set_option maxRecDepth 100000 in
set_option maxHeartbeats 4000000 in
theorem mark20_low (h : BkAt w base own g b gp gl vc vd lv) (hbase : base ≤ w.heap.size) (port id : Int) (x : List S45) (Ax : Option Addr) (cx : Nat) (hx : Away k45 own w Ax x) (hcx : x.length ≤ cx) (hpx : partsRs x ≤ 100000) (s : S34) (As : Option Addr) (cs : Nat) (hs : Away k104 own w As s.f1) (hcs : s.f1.length ≤ cs) (hps : partsC s.f1 ≤ 100000) (y : List S45) (Ay : Option Addr) (cy : Nat) (hy : Away k45 own w Ay y) (hcy : y.length ≤ cy) (hpy : partsRs y ≤ 100000) (hll : ∀ i, (b.logs.getD i []).length + x.length ≤ 1000000000000) (hm : b.mode = 1 ∨ b.mode = 2 ∨ b.mode = 3) (hk : b.knows port = true) (hid : id < 1) :
    Calls Try.prog 20 #[.pointer (some ⟨g, 0, none⟩), .int .i64 port, .int .i64 id, .slice Ax x.length cx, .agg #[.int .i64 s.f0, .slice As s.f1.length cs], .slice Ay y.length cy] w fun e w' => e = .returned (.tuple #[.bool false, .int .i64 133]) ∧ BkPost base own g b w w' := by
  have H := Lib.hid h
  have Hbase := Lib.hid hbase
  obtain ⟨l1, l2, l3⟩ := h.lts
  have Hs := Lib.hid hs
  have Hcs := Lib.hid hcs
  have Hps := Lib.hid hps
  have Hx := Lib.hid hx
  have Hcx := Lib.hid hcx
  have Hpx := Lib.hid hpx
  have Hy := Lib.hid hy
  have Hcy := Lib.hid hcy
  have Hpy := Lib.hid hpy
  have Hll := Lib.hid hll
  have HM := Lib.hid hm
  have U0 : Hid (Upd own w own (w.alloc (.cells #[.int .i64 s.f0, .slice As s.f1.length cs] 34))) := Upd.of_below ((Below.refl _ _).alloc (Nat.le_refl _) _) (fun _ _ => rfl)
  have H0 : Hid (BkAt (w.alloc (.cells #[.int .i64 s.f0, .slice As s.f1.length cs] 34)) base own g b gp gl vc vd lv) := h.below ((Below.refl _ _).alloc (Nat.le_refl _) _)
  have HK := Lib.hid (known39 H0.out port)
  have HH := Lib.hid (held29 H0.out port)
  rw [hk] at HK
  have i1 : decide (id < 1) = true := by simpa using hid
  clear h hbase hs hcs hps hx hcx hpx hy hcy hpy hll hm
  go_enter Try.func20, Try.ntmps20
  go_wp2_with (first
    | (go_at_call 39; refine HK.out.mono ?_; rintro e w' ⟨rfl, rfl⟩)
    | (go_at_call 29; refine HH.out.mono ?_; rintro e w' ⟨rfl, rfl⟩))
  go_ret2
  exact ⟨rfl, own, ⟨_, _, _, _, _, H0.out⟩, U0.out⟩
set_option maxRecDepth 100000 in
set_option maxHeartbeats 4000000 in
theorem mark20_high (h : BkAt w base own g b gp gl vc vd lv) (hbase : base ≤ w.heap.size) (port id : Int) (x : List S45) (Ax : Option Addr) (cx : Nat) (hx : Away k45 own w Ax x) (hcx : x.length ≤ cx) (hpx : partsRs x ≤ 100000) (s : S34) (As : Option Addr) (cs : Nat) (hs : Away k104 own w As s.f1) (hcs : s.f1.length ≤ cs) (hps : partsC s.f1 ≤ 100000) (y : List S45) (Ay : Option Addr) (cy : Nat) (hy : Away k45 own w Ay y) (hcy : y.length ≤ cy) (hpy : partsRs y ≤ 100000) (hll : ∀ i, (b.logs.getD i []).length + x.length ≤ 1000000000000) (hm : b.mode = 1 ∨ b.mode = 2 ∨ b.mode = 3) (hk : b.knows port = true) (hid0 : 1 ≤ id) (hid : 9999 < id) :
    Calls Try.prog 20 #[.pointer (some ⟨g, 0, none⟩), .int .i64 port, .int .i64 id, .slice Ax x.length cx, .agg #[.int .i64 s.f0, .slice As s.f1.length cs], .slice Ay y.length cy] w fun e w' => e = .returned (.tuple #[.bool false, .int .i64 133]) ∧ BkPost base own g b w w' := by
  have H := Lib.hid h
  have Hbase := Lib.hid hbase
  obtain ⟨l1, l2, l3⟩ := h.lts
  have Hs := Lib.hid hs
  have Hcs := Lib.hid hcs
  have Hps := Lib.hid hps
  have Hx := Lib.hid hx
  have Hcx := Lib.hid hcx
  have Hpx := Lib.hid hpx
  have Hy := Lib.hid hy
  have Hcy := Lib.hid hcy
  have Hpy := Lib.hid hpy
  have Hll := Lib.hid hll
  have HM := Lib.hid hm
  have U0 : Hid (Upd own w own (w.alloc (.cells #[.int .i64 s.f0, .slice As s.f1.length cs] 34))) := Upd.of_below ((Below.refl _ _).alloc (Nat.le_refl _) _) (fun _ _ => rfl)
  have H0 : Hid (BkAt (w.alloc (.cells #[.int .i64 s.f0, .slice As s.f1.length cs] 34)) base own g b gp gl vc vd lv) := h.below ((Below.refl _ _).alloc (Nat.le_refl _) _)
  have HK := Lib.hid (known39 H0.out port)
  have HH := Lib.hid (held29 H0.out port)
  rw [hk] at HK
  have i1 : decide (id < 1) = false := by simp; omega
  have i2 : decide (9999 < id) = true := by simpa using hid
  clear h hbase hs hcs hps hx hcx hpx hy hcy hpy hll hm
  go_enter Try.func20, Try.ntmps20
  go_wp2_with (first
    | (go_at_call 39; refine HK.out.mono ?_; rintro e w' ⟨rfl, rfl⟩)
    | (go_at_call 29; refine HH.out.mono ?_; rintro e w' ⟨rfl, rfl⟩))
  go_ret2
  exact ⟨rfl, own, ⟨_, _, _, _, _, H0.out⟩, U0.out⟩
set_option maxRecDepth 100000 in
set_option maxHeartbeats 4000000 in
theorem mark20_held (h : BkAt w base own g b gp gl vc vd lv) (hbase : base ≤ w.heap.size) (port id : Int) (x : List S45) (Ax : Option Addr) (cx : Nat) (hx : Away k45 own w Ax x) (hcx : x.length ≤ cx) (hpx : partsRs x ≤ 100000) (s : S34) (As : Option Addr) (cs : Nat) (hs : Away k104 own w As s.f1) (hcs : s.f1.length ≤ cs) (hps : partsC s.f1 ≤ 100000) (y : List S45) (Ay : Option Addr) (cy : Nat) (hy : Away k45 own w Ay y) (hcy : y.length ≤ cy) (hpy : partsRs y ≤ 100000) (hll : ∀ i, (b.logs.getD i []).length + x.length ≤ 1000000000000) (hm : b.mode = 1 ∨ b.mode = 2 ∨ b.mode = 3) (hk : b.knows port = true) (hid : 1 ≤ id ∧ id ≤ 9999) (hh : b.held port = true) :
    Calls Try.prog 20 #[.pointer (some ⟨g, 0, none⟩), .int .i64 port, .int .i64 id, .slice Ax x.length cx, .agg #[.int .i64 s.f0, .slice As s.f1.length cs], .slice Ay y.length cy] w fun e w' => e = .returned (.tuple #[.bool false, .int .i64 134]) ∧ BkPost base own g b w w' := by
  have H := Lib.hid h
  have Hbase := Lib.hid hbase
  obtain ⟨l1, l2, l3⟩ := h.lts
  have Hs := Lib.hid hs
  have Hcs := Lib.hid hcs
  have Hps := Lib.hid hps
  have Hx := Lib.hid hx
  have Hcx := Lib.hid hcx
  have Hpx := Lib.hid hpx
  have Hy := Lib.hid hy
  have Hcy := Lib.hid hcy
  have Hpy := Lib.hid hpy
  have Hll := Lib.hid hll
  have HM := Lib.hid hm
  have U0 : Hid (Upd own w own (w.alloc (.cells #[.int .i64 s.f0, .slice As s.f1.length cs] 34))) := Upd.of_below ((Below.refl _ _).alloc (Nat.le_refl _) _) (fun _ _ => rfl)
  have H0 : Hid (BkAt (w.alloc (.cells #[.int .i64 s.f0, .slice As s.f1.length cs] 34)) base own g b gp gl vc vd lv) := h.below ((Below.refl _ _).alloc (Nat.le_refl _) _)
  have HK := Lib.hid (known39 H0.out port)
  have HH := Lib.hid (held29 H0.out port)
  rw [hk] at HK
  rw [hh] at HH
  have i1 : decide (id < 1) = false := by simp; omega
  have i2 : decide (9999 < id) = false := by simp; omega
  clear h hbase hs hcs hps hx hcx hpx hy hcy hpy hll hm
  go_enter Try.func20, Try.ntmps20
  go_wp2_with (first
    | (go_at_call 39; refine HK.out.mono ?_; rintro e w' ⟨rfl, rfl⟩)
    | (go_at_call 29; refine HH.out.mono ?_; rintro e w' ⟨rfl, rfl⟩))
  go_ret2
  exact ⟨rfl, own, ⟨_, _, _, _, _, H0.out⟩, U0.out⟩
set_option maxRecDepth 100000 in
set_option maxHeartbeats 4000000 in
theorem mark20_old (h : BkAt w base own g b gp gl vc vd lv) (hbase : base ≤ w.heap.size) (p : Nat) (id : Int) (hp : p < b.ports.length) (x : List S45) (Ax : Option Addr) (cx : Nat) (hx : Away k45 own w Ax x) (hcx : x.length ≤ cx) (hpx : partsRs x ≤ 100000) (s : S34) (As : Option Addr) (cs : Nat) (hs : Away k104 own w As s.f1) (hcs : s.f1.length ≤ cs) (hps : partsC s.f1 ≤ 100000) (y : List S45) (Ay : Option Addr) (cy : Nat) (hy : Away k45 own w Ay y) (hcy : y.length ≤ cy) (hpy : partsRs y ≤ 100000) (hll : ∀ i, (b.logs.getD i []).length + x.length ≤ 1000000000000) (hm : b.mode = 1 ∨ b.mode = 2 ∨ b.mode = 3) (hk : b.knows p = true) (hid : 1 ≤ id ∧ id ≤ 9999) (hh : b.held p = false) (hn : id < b.now) :
    Calls Try.prog 20 #[.pointer (some ⟨g, 0, none⟩), .int .i64 p, .int .i64 id, .slice Ax x.length cx, .agg #[.int .i64 s.f0, .slice As s.f1.length cs], .slice Ay y.length cy] w fun e w' => e = .returned (.tuple #[.bool false, .int .i64 0]) ∧ BkPost base own g b w w' := by
  have H := Lib.hid h
  have Hbase := Lib.hid hbase
  obtain ⟨l1, l2, l3⟩ := h.lts
  have Hs := Lib.hid hs
  have Hcs := Lib.hid hcs
  have Hps := Lib.hid hps
  have Hx := Lib.hid hx
  have Hcx := Lib.hid hcx
  have Hpx := Lib.hid hpx
  have Hy := Lib.hid hy
  have Hcy := Lib.hid hcy
  have Hpy := Lib.hid hpy
  have Hll := Lib.hid hll
  have HM := Lib.hid hm
  have U0 : Hid (Upd own w own (w.alloc (.cells #[.int .i64 s.f0, .slice As s.f1.length cs] 34))) := Upd.of_below ((Below.refl _ _).alloc (Nat.le_refl _) _) (fun _ _ => rfl)
  have H0 : Hid (BkAt (w.alloc (.cells #[.int .i64 s.f0, .slice As s.f1.length cs] 34)) base own g b gp gl vc vd lv) := h.below ((Below.refl _ _).alloc (Nat.le_refl _) _)
  have HK := Lib.hid (known39 H0.out p)
  have HH := Lib.hid (held29 H0.out p)
  rw [hk] at HK
  rw [hh] at HH
  have i1 : decide (id < 1) = false := by simp; omega
  have i2 : decide (9999 < id) = false := by simp; omega
  have c2 : w.cell? ⟨g, 2, none⟩ = some (.int .i64 b.now) := h.facts.2.2.1
  have c3 : w.cell? ⟨g, 3, none⟩ = some (.slice (some ⟨gp, 0, none⟩) b.ports.length b.ports.length) := h.facts.2.2.2.1
  have i3 : decide (b.now < id) = false := by simp; omega
  have i4 : (id == b.now) = false := by simp; omega
  clear h hbase hs hcs hps hx hcx hpx hy hcy hpy hll hm hk hh hn hid
  go_enter Try.func20, Try.ntmps20
  go_wp2_with (first
    | (go_at_call 39; refine HK.out.mono ?_; rintro e w' ⟨rfl, rfl⟩)
    | (go_at_call 29; refine HH.out.mono ?_; rintro e w' ⟨rfl, rfl⟩))
  go_ret2
  exact ⟨rfl, own, ⟨_, _, _, _, _, H0.out⟩, U0.out⟩
set_option maxRecDepth 100000 in
set_option maxHeartbeats 4000000 in
theorem mark20_done (h : BkAt w base own g b gp gl vc vd lv) (hbase : base ≤ w.heap.size) (p : Nat) (id : Int) (hp : p < b.ports.length) (x : List S45) (Ax : Option Addr) (cx : Nat) (hx : Away k45 own w Ax x) (hcx : x.length ≤ cx) (hpx : partsRs x ≤ 100000) (s : S34) (As : Option Addr) (cs : Nat) (hs : Away k104 own w As s.f1) (hcs : s.f1.length ≤ cs) (hps : partsC s.f1 ≤ 100000) (y : List S45) (Ay : Option Addr) (cy : Nat) (hy : Away k45 own w Ay y) (hcy : y.length ≤ cy) (hpy : partsRs y ≤ 100000) (hll : ∀ i, (b.logs.getD i []).length + x.length ≤ 1000000000000) (hm : b.mode = 1 ∨ b.mode = 2 ∨ b.mode = 3) (hk : b.knows p = true) (hid : 1 ≤ id ∧ id ≤ 9999) (hh : b.held p = false) (hn : id = b.now) (hq : b.ports.getD p 0 = 1) :
    Calls Try.prog 20 #[.pointer (some ⟨g, 0, none⟩), .int .i64 p, .int .i64 id, .slice Ax x.length cx, .agg #[.int .i64 s.f0, .slice As s.f1.length cs], .slice Ay y.length cy] w fun e w' => e = .returned (.tuple #[.bool false, .int .i64 0]) ∧ BkPost base own g b w w' := by
  have H := Lib.hid h
  have Hbase := Lib.hid hbase
  obtain ⟨l1, l2, l3⟩ := h.lts
  have Hs := Lib.hid hs
  have Hcs := Lib.hid hcs
  have Hps := Lib.hid hps
  have Hx := Lib.hid hx
  have Hcx := Lib.hid hcx
  have Hpx := Lib.hid hpx
  have Hy := Lib.hid hy
  have Hcy := Lib.hid hcy
  have Hpy := Lib.hid hpy
  have Hll := Lib.hid hll
  have HM := Lib.hid hm
  have U0 : Hid (Upd own w own (w.alloc (.cells #[.int .i64 s.f0, .slice As s.f1.length cs] 34))) := Upd.of_below ((Below.refl _ _).alloc (Nat.le_refl _) _) (fun _ _ => rfl)
  have H0 : Hid (BkAt (w.alloc (.cells #[.int .i64 s.f0, .slice As s.f1.length cs] 34)) base own g b gp gl vc vd lv) := h.below ((Below.refl _ _).alloc (Nat.le_refl _) _)
  have HK := Lib.hid (known39 H0.out p)
  have HH := Lib.hid (held29 H0.out p)
  rw [hk] at HK
  rw [hh] at HH
  have i1 : decide (id < 1) = false := by simp; omega
  have i2 : decide (9999 < id) = false := by simp; omega
  have c2 : w.cell? ⟨g, 2, none⟩ = some (.int .i64 b.now) := h.facts.2.2.1
  have c3 : w.cell? ⟨g, 3, none⟩ = some (.slice (some ⟨gp, 0, none⟩) b.ports.length b.ports.length) := h.facts.2.2.2.1
  have cp := h.port p hp
  rw [hq] at cp
  rw [← hn] at c2
  have i3 : decide (id < id) = false := by simp
  have i4 : (id == id) = true := by simp
  clear h hbase hs hcs hps hx hcx hpx hy hcy hpy hll hm hk hh hn hid hq
  go_enter Try.func20, Try.ntmps20
  go_wp2_with (first
    | (go_at_call 39; refine HK.out.mono ?_; rintro e w' ⟨rfl, rfl⟩)
    | (go_at_call 29; refine HH.out.mono ?_; rintro e w' ⟨rfl, rfl⟩))
  go_ret2
  exact ⟨rfl, own, ⟨_, _, _, _, _, H0.out⟩, U0.out⟩
set_option maxRecDepth 100000 in
set_option maxHeartbeats 4000000 in
theorem mark20_same (h : BkAt w base own g b gp gl vc vd lv) (hbase : base ≤ w.heap.size) (p : Nat) (id : Int) (hp : p < b.ports.length) (x : List S45) (Ax : Option Addr) (cx : Nat) (hx : Away k45 own w Ax x) (hcx : x.length ≤ cx) (hpx : partsRs x ≤ 100000) (s : S34) (As : Option Addr) (cs : Nat) (hs : Away k104 own w As s.f1) (hcs : s.f1.length ≤ cs) (hps : partsC s.f1 ≤ 100000) (y : List S45) (Ay : Option Addr) (cy : Nat) (hy : Away k45 own w Ay y) (hcy : y.length ≤ cy) (hpy : partsRs y ≤ 100000) (hll : ∀ i, (b.logs.getD i []).length + x.length ≤ 1000000000000) (hm : b.mode = 1 ∨ b.mode = 2 ∨ b.mode = 3) (hk : b.knows p = true) (hid : 1 ≤ id ∧ id ≤ 9999) (hh : b.held p = false) (hn : id = b.now) (hq : ¬ b.ports.getD p 0 = 1) :
    Calls Try.prog 20 #[.pointer (some ⟨g, 0, none⟩), .int .i64 p, .int .i64 id, .slice Ax x.length cx, .agg #[.int .i64 s.f0, .slice As s.f1.length cs], .slice Ay y.length cy] w fun e w' => e = .returned (.tuple #[.bool ((b.close p x s y).copied && !b.copied), .int .i64 0]) ∧ BkPost base own g (b.close p x s y) w w' := by
  have H := Lib.hid h
  have Hbase := Lib.hid hbase
  obtain ⟨l1, l2, l3⟩ := h.lts
  have Hs := Lib.hid hs
  have Hcs := Lib.hid hcs
  have Hps := Lib.hid hps
  have Hx := Lib.hid hx
  have Hcx := Lib.hid hcx
  have Hpx := Lib.hid hpx
  have Hy := Lib.hid hy
  have Hcy := Lib.hid hcy
  have Hpy := Lib.hid hpy
  have Hll := Lib.hid hll
  have HM := Lib.hid hm
  have U0 : Hid (Upd own w own (w.alloc (.cells #[.int .i64 s.f0, .slice As s.f1.length cs] 34))) := Upd.of_below ((Below.refl _ _).alloc (Nat.le_refl _) _) (fun _ _ => rfl)
  have H0 : Hid (BkAt (w.alloc (.cells #[.int .i64 s.f0, .slice As s.f1.length cs] 34)) base own g b gp gl vc vd lv) := h.below ((Below.refl _ _).alloc (Nat.le_refl _) _)
  have HK := Lib.hid (known39 H0.out p)
  have HH := Lib.hid (held29 H0.out p)
  rw [hk] at HK
  rw [hh] at HH
  have i1 : decide (id < 1) = false := by simp; omega
  have i2 : decide (9999 < id) = false := by simp; omega
  have c2 : w.cell? ⟨g, 2, none⟩ = some (.int .i64 b.now) := h.facts.2.2.1
  have c3 : w.cell? ⟨g, 3, none⟩ = some (.slice (some ⟨gp, 0, none⟩) b.ports.length b.ports.length) := h.facts.2.2.2.1
  have cp := h.port p hp
  rw [← hn] at c2
  have i3 : decide (id < id) = false := by simp
  have i4 : (id == id) = true := by simp
  have i5 : (b.ports.getD p 0 == 1) = false := beq_false_of_ne hq
  generalize b.ports.getD p 0 = q at cp i5
  have HC := Lib.hid (close42 H0.out (Nat.le_trans hbase U0.out.size) p hp x Ax cx (hx.upd U0.out) hcx hpx s As cs (hs.upd U0.out) hcs hps y Ay cy (hy.upd U0.out) hcy hpy (hll p) hm)
  clear h hbase hs hcs hps hx hcx hpx hy hcy hpy hll hm hk hh hn hid hq
  go_enter Try.func20, Try.ntmps20
  go_wp2_with (first
    | (go_at_call 39; refine HK.out.mono ?_; rintro e w' ⟨rfl, rfl⟩)
    | (go_at_call 29; refine HH.out.mono ?_; rintro e w' ⟨rfl, rfl⟩)
    | (go_at_call 42; refine HC.out.mono ?_; rintro e w2 ⟨rfl, own2, h2, u2⟩
       have H2 := Lib.hid h2
       have U2 := Lib.hid (U0.out.trans u2)
       clear h2 u2))
  go_ret2
  exact ⟨rfl, own2, H2.out, U2.out⟩
set_option maxRecDepth 100000 in
set_option maxHeartbeats 4000000 in
theorem mark20_new (h : BkAt w base own g b gp gl vc vd lv) (hbase : base ≤ w.heap.size) (p : Nat) (id : Int) (hp : p < b.ports.length) (x : List S45) (Ax : Option Addr) (cx : Nat) (hx : Away k45 own w Ax x) (hcx : x.length ≤ cx) (hpx : partsRs x ≤ 100000) (s : S34) (As : Option Addr) (cs : Nat) (hs : Away k104 own w As s.f1) (hcs : s.f1.length ≤ cs) (hps : partsC s.f1 ≤ 100000) (y : List S45) (Ay : Option Addr) (cy : Nat) (hy : Away k45 own w Ay y) (hcy : y.length ≤ cy) (hpy : partsRs y ≤ 100000) (hll : ∀ i, (b.logs.getD i []).length + x.length ≤ 1000000000000) (hm : b.mode = 1 ∨ b.mode = 2 ∨ b.mode = 3) (hk : b.knows p = true) (hid : 1 ≤ id ∧ id ≤ 9999) (hh : b.held p = false) (hn : b.now < id) :
    Calls Try.prog 20 #[.pointer (some ⟨g, 0, none⟩), .int .i64 p, .int .i64 id, .slice Ax x.length cx, .agg #[.int .i64 s.f0, .slice As s.f1.length cs], .slice Ay y.length cy] w fun e w' => e = .returned (.tuple #[.bool ((((b.freshed id).close p x s y)).copied && !(b.freshed id).copied), .int .i64 0]) ∧ BkPost base own g ((b.freshed id).close p x s y) w w' := by
  have H := Lib.hid h
  have Hbase := Lib.hid hbase
  obtain ⟨l1, l2, l3⟩ := h.lts
  have Hs := Lib.hid hs
  have Hcs := Lib.hid hcs
  have Hps := Lib.hid hps
  have Hx := Lib.hid hx
  have Hcx := Lib.hid hcx
  have Hpx := Lib.hid hpx
  have Hy := Lib.hid hy
  have Hcy := Lib.hid hcy
  have Hpy := Lib.hid hpy
  have Hll := Lib.hid hll
  have HM := Lib.hid hm
  have U0 : Hid (Upd own w own (w.alloc (.cells #[.int .i64 s.f0, .slice As s.f1.length cs] 34))) := Upd.of_below ((Below.refl _ _).alloc (Nat.le_refl _) _) (fun _ _ => rfl)
  have H0 : Hid (BkAt (w.alloc (.cells #[.int .i64 s.f0, .slice As s.f1.length cs] 34)) base own g b gp gl vc vd lv) := h.below ((Below.refl _ _).alloc (Nat.le_refl _) _)
  have HK := Lib.hid (known39 H0.out p)
  have HH := Lib.hid (held29 H0.out p)
  rw [hk] at HK
  rw [hh] at HH
  have i1 : decide (id < 1) = false := by simp; omega
  have i2 : decide (9999 < id) = false := by simp; omega
  have c2 : w.cell? ⟨g, 2, none⟩ = some (.int .i64 b.now) := h.facts.2.2.1
  have c3 : w.cell? ⟨g, 3, none⟩ = some (.slice (some ⟨gp, 0, none⟩) b.ports.length b.ports.length) := h.facts.2.2.2.1
  have i3 : decide (b.now < id) = true := by simpa using hn
  have HF := Lib.hid (fresh33 b.ports.length h.lp (w.alloc (.cells #[.int .i64 s.f0, .slice As s.f1.length cs] 34)))
  have hgb : g ≠ w.heap.size := by omega
  have hgb2 : w.heap.size ≠ g := by omega
  have GH := Lib.hid h.hb
  clear h hbase hs hcs hps hx hcx hpx hy hcy hpy hll hm hk hh hn hid
  go_enter Try.func20, Try.ntmps20
  go_wp2_with (first
    | (go_at_call 39; refine HK.out.mono ?_; rintro e w' ⟨rfl, rfl⟩)
    | (go_at_call 29; refine HH.out.mono ?_; rintro e w' ⟨rfl, rfl⟩)
    | (go_at_call 33; refine HF.out.mono ?_; rintro e w2 ⟨gp2, gl2, n1, m1, m2, rfl, hgp2, hgl2, hb2⟩
       have HB2 := Lib.hid hb2
       have Hgp2 := Lib.hid hgp2
       have Hgl2 := Lib.hid hgl2
       simp only [World.size_alloc] at m1 m2
       have n2 : gp2 ≠ g := by omega
       have n3 : gl2 ≠ g := by omega
       have n4 : gp2 ≠ w.heap.size := by omega
       have n5 : gl2 ≠ w.heap.size := by omega
       have GW : Hid (w2.heap[g]? = some (.cells #[.int .i64 b.mode, .int .i64 b.back, .int .i64 b.now, .slice (some ⟨gp, 0, none⟩) b.ports.length b.ports.length, .slice (some ⟨gl, 0, none⟩) b.ports.length b.ports.length, .bool b.copied, .bool b.given, .int .i64 b.st.f0, vc, vd] 78 (0, 0))) := (HB2.out.block g (by simp only [World.size_alloc]; omega)).trans ((((Below.refl w.heap.size w).alloc (Nat.le_refl _) _).block g l1).trans GH.out)
       have d0 : w2.cell? ⟨g, 0, none⟩ = some (.int .i64 b.mode) := blk_at GW.out 0 rfl
       have f0 : w2.frozen? ⟨g, 0, none⟩ = false := blk_frozen GW.out 0
       have d1 : w2.cell? ⟨g, 1, none⟩ = some (.int .i64 b.back) := blk_at GW.out 1 rfl
       have f1 : w2.frozen? ⟨g, 1, none⟩ = false := blk_frozen GW.out 1
       have d2 : w2.cell? ⟨g, 2, none⟩ = some (.int .i64 b.now) := blk_at GW.out 2 rfl
       have f2 : w2.frozen? ⟨g, 2, none⟩ = false := blk_frozen GW.out 2
       have d3 : w2.cell? ⟨g, 3, none⟩ = some (.slice (some ⟨gp, 0, none⟩) b.ports.length b.ports.length) := blk_at GW.out 3 rfl
       have f3 : w2.frozen? ⟨g, 3, none⟩ = false := blk_frozen GW.out 3
       have d4 : w2.cell? ⟨g, 4, none⟩ = some (.slice (some ⟨gl, 0, none⟩) b.ports.length b.ports.length) := blk_at GW.out 4 rfl
       have f4 : w2.frozen? ⟨g, 4, none⟩ = false := blk_frozen GW.out 4
       have d5 : w2.cell? ⟨g, 5, none⟩ = some (.bool b.copied) := blk_at GW.out 5 rfl
       have f5 : w2.frozen? ⟨g, 5, none⟩ = false := blk_frozen GW.out 5
       have d6 : w2.cell? ⟨g, 6, none⟩ = some (.bool b.given) := blk_at GW.out 6 rfl
       have f6 : w2.frozen? ⟨g, 6, none⟩ = false := blk_frozen GW.out 6
       have d7 : w2.cell? ⟨g, 7, none⟩ = some (.int .i64 b.st.f0) := blk_at GW.out 7 rfl
       have f7 : w2.frozen? ⟨g, 7, none⟩ = false := blk_frozen GW.out 7
       have d8 : w2.cell? ⟨g, 8, none⟩ = some (vc) := blk_at GW.out 8 rfl
       have f8 : w2.frozen? ⟨g, 8, none⟩ = false := blk_frozen GW.out 8
       have d9 : w2.cell? ⟨g, 9, none⟩ = some (vd) := blk_at GW.out 9 rfl
       have f9 : w2.frozen? ⟨g, 9, none⟩ = false := blk_frozen GW.out 9
       have G2 : Hid ((w2.setCell ⟨g, 2, none⟩ (.int .i64 id)).heap[g]? = some (.cells #[.int .i64 b.mode, .int .i64 b.back, .int .i64 id, .slice (some ⟨gp, 0, none⟩) b.ports.length b.ports.length, .slice (some ⟨gl, 0, none⟩) b.ports.length b.ports.length, .bool b.copied, .bool b.given, .int .i64 b.st.f0, vc, vd] 78 (0, 0))) := blk_put GW.out 2 _ rfl
       have G3 : Hid (((w2.setCell ⟨g, 2, none⟩ (.int .i64 id)).setCell ⟨g, 3, none⟩ (.slice (some ⟨gp2, 0, none⟩) b.ports.length b.ports.length)).heap[g]? = some (.cells #[.int .i64 b.mode, .int .i64 b.back, .int .i64 id, .slice (some ⟨gp2, 0, none⟩) b.ports.length b.ports.length, .slice (some ⟨gl, 0, none⟩) b.ports.length b.ports.length, .bool b.copied, .bool b.given, .int .i64 b.st.f0, vc, vd] 78 (0, 0))) := blk_put G2.out 3 _ rfl
       have G4 : Hid ((((w2.setCell ⟨g, 2, none⟩ (.int .i64 id)).setCell ⟨g, 3, none⟩ (.slice (some ⟨gp2, 0, none⟩) b.ports.length b.ports.length)).setCell ⟨g, 4, none⟩ (.slice (some ⟨gl2, 0, none⟩) b.ports.length b.ports.length)).heap[g]? = some (.cells #[.int .i64 b.mode, .int .i64 b.back, .int .i64 id, .slice (some ⟨gp2, 0, none⟩) b.ports.length b.ports.length, .slice (some ⟨gl2, 0, none⟩) b.ports.length b.ports.length, .bool b.copied, .bool b.given, .int .i64 b.st.f0, vc, vd] 78 (0, 0))) := blk_put G3.out 4 _ rfl
       have G5 : Hid (((((w2.setCell ⟨g, 2, none⟩ (.int .i64 id)).setCell ⟨g, 3, none⟩ (.slice (some ⟨gp2, 0, none⟩) b.ports.length b.ports.length)).setCell ⟨g, 4, none⟩ (.slice (some ⟨gl2, 0, none⟩) b.ports.length b.ports.length)).setCell ⟨g, 5, none⟩ (.bool false)).heap[g]? = some (.cells #[.int .i64 b.mode, .int .i64 b.back, .int .i64 id, .slice (some ⟨gp2, 0, none⟩) b.ports.length b.ports.length, .slice (some ⟨gl2, 0, none⟩) b.ports.length b.ports.length, .bool false, .bool b.given, .int .i64 b.st.f0, vc, vd] 78 (0, 0))) := blk_put G4.out 5 _ rfl
       have G6 : Hid ((((((w2.setCell ⟨g, 2, none⟩ (.int .i64 id)).setCell ⟨g, 3, none⟩ (.slice (some ⟨gp2, 0, none⟩) b.ports.length b.ports.length)).setCell ⟨g, 4, none⟩ (.slice (some ⟨gl2, 0, none⟩) b.ports.length b.ports.length)).setCell ⟨g, 5, none⟩ (.bool false)).setCell ⟨g, 6, none⟩ (.bool false)).heap[g]? = some (.cells #[.int .i64 b.mode, .int .i64 b.back, .int .i64 id, .slice (some ⟨gp2, 0, none⟩) b.ports.length b.ports.length, .slice (some ⟨gl2, 0, none⟩) b.ports.length b.ports.length, .bool false, .bool false, .int .i64 b.st.f0, vc, vd] 78 (0, 0))) := blk_put G5.out 6 _ rfl
       have G7 : Hid (((((((w2.setCell ⟨g, 2, none⟩ (.int .i64 id)).setCell ⟨g, 3, none⟩ (.slice (some ⟨gp2, 0, none⟩) b.ports.length b.ports.length)).setCell ⟨g, 4, none⟩ (.slice (some ⟨gl2, 0, none⟩) b.ports.length b.ports.length)).setCell ⟨g, 5, none⟩ (.bool false)).setCell ⟨g, 6, none⟩ (.bool false)).setCell ⟨g, 7, none⟩ (.int .i64 0)).heap[g]? = some (.cells #[.int .i64 b.mode, .int .i64 b.back, .int .i64 id, .slice (some ⟨gp2, 0, none⟩) b.ports.length b.ports.length, .slice (some ⟨gl2, 0, none⟩) b.ports.length b.ports.length, .bool false, .bool false, .int .i64 0, vc, vd] 78 (0, 0))) := blk_put G6.out 7 _ rfl
       have G8 : Hid ((((((((w2.setCell ⟨g, 2, none⟩ (.int .i64 id)).setCell ⟨g, 3, none⟩ (.slice (some ⟨gp2, 0, none⟩) b.ports.length b.ports.length)).setCell ⟨g, 4, none⟩ (.slice (some ⟨gl2, 0, none⟩) b.ports.length b.ports.length)).setCell ⟨g, 5, none⟩ (.bool false)).setCell ⟨g, 6, none⟩ (.bool false)).setCell ⟨g, 7, none⟩ (.int .i64 0)).setCell ⟨g, 8, none⟩ (.slice none 0 0)).heap[g]? = some (.cells #[.int .i64 b.mode, .int .i64 b.back, .int .i64 id, .slice (some ⟨gp2, 0, none⟩) b.ports.length b.ports.length, .slice (some ⟨gl2, 0, none⟩) b.ports.length b.ports.length, .bool false, .bool false, .int .i64 0, .slice none 0 0, vd] 78 (0, 0))) := blk_put G7.out 8 _ rfl
       have G9 : Hid (((((((((w2.setCell ⟨g, 2, none⟩ (.int .i64 id)).setCell ⟨g, 3, none⟩ (.slice (some ⟨gp2, 0, none⟩) b.ports.length b.ports.length)).setCell ⟨g, 4, none⟩ (.slice (some ⟨gl2, 0, none⟩) b.ports.length b.ports.length)).setCell ⟨g, 5, none⟩ (.bool false)).setCell ⟨g, 6, none⟩ (.bool false)).setCell ⟨g, 7, none⟩ (.int .i64 0)).setCell ⟨g, 8, none⟩ (.slice none 0 0)).setCell ⟨g, 9, none⟩ (.slice none 0 0)).heap[g]? = some (.cells #[.int .i64 b.mode, .int .i64 b.back, .int .i64 id, .slice (some ⟨gp2, 0, none⟩) b.ports.length b.ports.length, .slice (some ⟨gl2, 0, none⟩) b.ports.length b.ports.length, .bool false, .bool false, .int .i64 0, .slice none 0 0, .slice none 0 0] 78 (0, 0))) := blk_put G8.out 9 _ rfl
       have HOn : Hid (Only g w2 ((((((((w2.setCell ⟨g, 2, none⟩ (.int .i64 id)).setCell ⟨g, 3, none⟩ (.slice (some ⟨gp2, 0, none⟩) b.ports.length b.ports.length)).setCell ⟨g, 4, none⟩ (.slice (some ⟨gl2, 0, none⟩) b.ports.length b.ports.length)).setCell ⟨g, 5, none⟩ (.bool false)).setCell ⟨g, 6, none⟩ (.bool false)).setCell ⟨g, 7, none⟩ (.int .i64 0)).setCell ⟨g, 8, none⟩ (.slice none 0 0)).setCell ⟨g, 9, none⟩ (.slice none 0 0))) := (((((((((Only.refl g w2).set 2 _).set 3 _).set 4 _).set 5 _).set 6 _).set 7 _).set 8 _).set 9 _)
       have e0 : w2.cell? ⟨w.heap.size, 0, none⟩ = some (.int .i64 s.f0) := blk_at (blk_below (blk_new w _) HB2.out) 0 rfl
       have e1 : w2.cell? ⟨w.heap.size, 1, none⟩ = some (.slice As s.f1.length cs) := blk_at (blk_below (blk_new w _) HB2.out) 1 rfl
       have cq : w2.cell? ⟨gp2, p, none⟩ = some (.int .i64 0) := blk_at Hgp2.out p (by simp [List.getElem?_replicate, hp])
       have HN : Hid (BkAt ((((((((w2.setCell ⟨g, 2, none⟩ (.int .i64 id)).setCell ⟨g, 3, none⟩ (.slice (some ⟨gp2, 0, none⟩) b.ports.length b.ports.length)).setCell ⟨g, 4, none⟩ (.slice (some ⟨gl2, 0, none⟩) b.ports.length b.ports.length)).setCell ⟨g, 5, none⟩ (.bool false)).setCell ⟨g, 6, none⟩ (.bool false)).setCell ⟨g, 7, none⟩ (.int .i64 0)).setCell ⟨g, 8, none⟩ (.slice none 0 0)).setCell ⟨g, 9, none⟩ (.slice none 0 0)) base (ownF own (w.alloc (.cells #[.int .i64 s.f0, .slice As s.f1.length cs] 34)).heap.size gp2 gl2) g (b.freshed id) gp2 gl2 (.slice none 0 0) (.slice none 0 0) (List.replicate b.ports.length (.slice none 0 0)) ∧ Upd own (w.alloc (.cells #[.int .i64 s.f0, .slice As s.f1.length cs] 34)) (ownF own (w.alloc (.cells #[.int .i64 s.f0, .slice As s.f1.length cs] 34)).heap.size gp2 gl2) ((((((((w2.setCell ⟨g, 2, none⟩ (.int .i64 id)).setCell ⟨g, 3, none⟩ (.slice (some ⟨gp2, 0, none⟩) b.ports.length b.ports.length)).setCell ⟨g, 4, none⟩ (.slice (some ⟨gl2, 0, none⟩) b.ports.length b.ports.length)).setCell ⟨g, 5, none⟩ (.bool false)).setCell ⟨g, 6, none⟩ (.bool false)).setCell ⟨g, 7, none⟩ (.int .i64 0)).setCell ⟨g, 8, none⟩ (.slice none 0 0)).setCell ⟨g, 9, none⟩ (.slice none 0 0))) :=
         H0.out.freshd (Nat.le_trans Hbase.out U0.out.size) id HB2.out (by simp only [World.size_alloc]; omega) (by simp only [World.size_alloc]; omega) n1 Hgp2.out Hgl2.out G9.out HOn.out (by simp only [World.size_setCell])
       have HC : Hid (Calls Try.prog 42 #[.pointer (some ⟨g, 0, none⟩), .int .i64 p, .slice Ax x.length cx, .agg #[.int .i64 s.f0, .slice As s.f1.length cs], .slice Ay y.length cy] ((((((((w2.setCell ⟨g, 2, none⟩ (.int .i64 id)).setCell ⟨g, 3, none⟩ (.slice (some ⟨gp2, 0, none⟩) b.ports.length b.ports.length)).setCell ⟨g, 4, none⟩ (.slice (some ⟨gl2, 0, none⟩) b.ports.length b.ports.length)).setCell ⟨g, 5, none⟩ (.bool false)).setCell ⟨g, 6, none⟩ (.bool false)).setCell ⟨g, 7, none⟩ (.int .i64 0)).setCell ⟨g, 8, none⟩ (.slice none 0 0)).setCell ⟨g, 9, none⟩ (.slice none 0 0)) fun e w' => e = .returned (.bool (((b.freshed id).close p x s y).copied && !(b.freshed id).copied)) ∧ BkPost base (ownF own (w.alloc (.cells #[.int .i64 s.f0, .slice As s.f1.length cs] 34)).heap.size gp2 gl2) g ((b.freshed id).close p x s y) ((((((((w2.setCell ⟨g, 2, none⟩ (.int .i64 id)).setCell ⟨g, 3, none⟩ (.slice (some ⟨gp2, 0, none⟩) b.ports.length b.ports.length)).setCell ⟨g, 4, none⟩ (.slice (some ⟨gl2, 0, none⟩) b.ports.length b.ports.length)).setCell ⟨g, 5, none⟩ (.bool false)).setCell ⟨g, 6, none⟩ (.bool false)).setCell ⟨g, 7, none⟩ (.int .i64 0)).setCell ⟨g, 8, none⟩ (.slice none 0 0)).setCell ⟨g, 9, none⟩ (.slice none 0 0)) w') :=
         close42 HN.out.1 (Nat.le_trans Hbase.out (U0.out.trans HN.out.2).size) p (by unfold Bk.freshed; simpa using hp) x Ax cx (Hx.out.upd (U0.out.trans HN.out.2)) Hcx.out Hpx.out s As cs (Hs.out.upd (U0.out.trans HN.out.2)) Hcs.out Hps.out y Ay cy (Hy.out.upd (U0.out.trans HN.out.2)) Hcy.out Hpy.out (fresh_len b id p x Hpx.out) HM.out
       clear hgp2 hgl2 hb2)
    | (go_at_call 42; refine HC.out.mono ?_; rintro e w3 ⟨rfl, own3, h3, u3⟩
       have H3 := Lib.hid h3
       have U3 := Lib.hid ((U0.out.trans HN.out.2).trans u3)
       clear h3 u3))
  go_ret2
  exact ⟨rfl, own3, H3.out, U3.out⟩
theorem mark20 (h : BkAt w base own g b gp gl vc vd lv) (hbase : base ≤ w.heap.size) (port id : Int) (x : List S45) (Ax : Option Addr) (cx : Nat) (hx : Away k45 own w Ax x) (hcx : x.length ≤ cx) (hpx : partsRs x ≤ 100000) (s : S34) (As : Option Addr) (cs : Nat) (hs : Away k104 own w As s.f1) (hcs : s.f1.length ≤ cs) (hps : partsC s.f1 ≤ 100000) (y : List S45) (Ay : Option Addr) (cy : Nat) (hy : Away k45 own w Ay y) (hcy : y.length ≤ cy) (hpy : partsRs y ≤ 100000) (hll : ∀ i, (b.logs.getD i []).length + x.length ≤ 1000000000000) (hm : b.mode = 1 ∨ b.mode = 2 ∨ b.mode = 3) :
    Calls Try.prog 20 #[.pointer (some ⟨g, 0, none⟩), .int .i64 port, .int .i64 id, .slice Ax x.length cx, .agg #[.int .i64 s.f0, .slice As s.f1.length cs], .slice Ay y.length cy] w fun e w' => e = .returned (.tuple #[.bool (b.markC port id x s y), .int .i64 (b.markE port id)]) ∧ BkPost base own g (b.mark port id x s y) w w' := by
  by_cases hk : b.knows port = true
  · by_cases hid : 1 ≤ id ∧ id ≤ 9999
    · by_cases hh : b.held port = true
      · have hE : b.markE port id = 134 := by unfold Bk.markE; rw [if_neg (by simp [hk]), if_neg (by omega), if_pos hh]
        have hC : b.closes port id = false := by unfold Bk.closes; rw [hE]; rfl
        have h1 : b.mark port id x s y = b := by unfold Bk.mark; rw [if_neg (by simp [hC])]
        have h2 : b.markC port id x s y = false := by unfold Bk.markC; rw [hC]; rfl
        rw [hE, h1, h2]
        exact mark20_held h hbase port id x Ax cx hx hcx hpx s As cs hs hcs hps y Ay cy hy hcy hpy hll hm hk hid hh
      · have hh' : b.held port = false := by simpa using hh
        have hE : b.markE port id = 0 := by unfold Bk.markE; rw [if_neg (by simp [hk]), if_neg (by omega), if_neg hh]
        obtain ⟨p, rfl, hp⟩ := Bk.knows_nat hk
        by_cases hn : id < b.now
        · have hC : b.closes p id = false := by unfold Bk.closes; rw [hE]; simp [hn]
          have h1 : b.mark p id x s y = b := by unfold Bk.mark; rw [if_neg (by simp [hC])]
          have h2 : b.markC p id x s y = false := by unfold Bk.markC; rw [hC]; rfl
          rw [hE, h1, h2]
          exact mark20_old h hbase p id hp x Ax cx hx hcx hpx s As cs hs hcs hps y Ay cy hy hcy hpy hll hm hk hid hh' hn
        · by_cases hn2 : b.now < id
          · have hB : b.begun id = b.freshed id := by unfold Bk.begun; rw [if_pos hn2]
            have hC : b.closes p id = true := by unfold Bk.closes; rw [hE, hB]; simp [hn, Bk.freshed, List.getElem?_replicate, hp]
            have h1 : b.mark p id x s y = (b.freshed id).close p x s y := by unfold Bk.mark; rw [if_pos hC, hB, Int.toNat_natCast]
            have h2 : b.markC p id x s y = (((b.freshed id).close p x s y).copied && !(b.freshed id).copied) := by unfold Bk.markC; rw [hC, h1, hB]; rfl
            rw [hE, h1, h2]
            exact mark20_new h hbase p id hp x Ax cx hx hcx hpx s As cs hs hcs hps y Ay cy hy hcy hpy hll hm hk hid hh' hn2
          · have hn3 : id = b.now := by omega
            have hB : b.begun id = b := by unfold Bk.begun; rw [if_neg hn2]
            by_cases hq : b.ports.getD p 0 = 1
            · have hC : b.closes p id = false := by unfold Bk.closes; rw [hE, hB, Int.toNat_natCast, hq]; simp
              have h1 : b.mark p id x s y = b := by unfold Bk.mark; rw [if_neg (by simp [hC])]
              have h2 : b.markC p id x s y = false := by unfold Bk.markC; rw [hC]; rfl
              rw [hE, h1, h2]
              exact mark20_done h hbase p id hp x Ax cx hx hcx hpx s As cs hs hcs hps y Ay cy hy hcy hpy hll hm hk hid hh' hn3 hq
            · have hC : b.closes p id = true := by unfold Bk.closes; rw [hE, hB, Int.toNat_natCast, beq_false_of_ne hq]; simp [hn]
              have h1 : b.mark p id x s y = b.close p x s y := by unfold Bk.mark; rw [if_pos hC, hB, Int.toNat_natCast]
              have h2 : b.markC p id x s y = ((b.close p x s y).copied && !b.copied) := by unfold Bk.markC; rw [hC, h1, hB]; rfl
              rw [hE, h1, h2]
              exact mark20_same h hbase p id hp x Ax cx hx hcx hpx s As cs hs hcs hps y Ay cy hy hcy hpy hll hm hk hid hh' hn3 hq
    · have hE : b.markE port id = 133 := by unfold Bk.markE; rw [if_neg (by simp [hk]), if_pos (by omega)]
      have hC : b.closes port id = false := by unfold Bk.closes; rw [hE]; rfl
      have h1 : b.mark port id x s y = b := by unfold Bk.mark; rw [if_neg (by simp [hC])]
      have h2 : b.markC port id x s y = false := by unfold Bk.markC; rw [hC]; rfl
      rw [hE, h1, h2]
      by_cases h3 : id < 1
      · exact mark20_low h hbase port id x Ax cx hx hcx hpx s As cs hs hcs hps y Ay cy hy hcy hpy hll hm hk h3
      · exact mark20_high h hbase port id x Ax cx hx hcx hpx s As cs hs hcs hps y Ay cy hy hcy hpy hll hm hk (by omega) (by omega)
  · have hk' : b.knows port = false := by simpa using hk
    have hE : b.markE port id = 132 := by unfold Bk.markE; rw [if_pos hk']
    have hC : b.closes port id = false := by unfold Bk.closes; rw [hE]; rfl
    have h1 : b.mark port id x s y = b := by unfold Bk.mark; rw [if_neg (by simp [hC])]
    have h2 : b.markC port id x s y = false := by unfold Bk.markC; rw [hC]; rfl
    rw [hE, h1, h2]
    exact mark20_port h hbase port id x Ax cx hx hcx hpx s As cs hs hcs hps y Ay cy hy hcy hpy hll hm hk'
end
end Go.Proofs.Ytomfknblehkocaa.C
