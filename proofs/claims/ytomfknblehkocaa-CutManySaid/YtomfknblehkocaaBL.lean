/- The book closes a port. -/
import Derived.Test.YtomfknblehkocaaBC
namespace Go.Proofs.Ytomfknblehkocaa.C
open Go.RowKit Go.Proofs.YtomfknblehkocaaW.PrintWords Go.Proofs.YtomfknblehkocaaW.PrintLast
set_option linter.unusedVariables false
set_option linter.unusedSimpArgs false
theorem R_sliced {α : Type} {d : Kd α} {e base : Nat} {ok : Nat → Prop} {w : World} {v : Value} {xs : List α} (h : d.R e w base ok v xs) : ∃ A m c, v = .slice A m c := by
  obtain ⟨A, c, he⟩ := Kd.R_slice h
  exact ⟨A, _, c, he⟩
/-- A store into the ports. -/
theorem Upd.setb {own own' : Nat → Nat} {w w' : World} (h : Upd own w own' w') {p : Addr} {t : Nat} (hp : own' p.block = t + 1) {u : Value} : Upd own w own' (w'.setCell p u) :=
  ⟨h.os, h.tape, h.output, by simpa [World.setCell] using h.size, h.same, fun k hk h0 => (Below.heap_setCell _ _ _ _ (fun hk2 => by have := h.same k hk h0; rw [hk2, hp] at this; omega)).trans (h.block k hk h0)⟩
section
variable {w : World} {base : Nat} {own : Nat → Nat} {g : Nat} {b : Bk} {gp gl : Nat} {vc vd : Value} {lv : List Value}
set_option maxRecDepth 100000 in
set_option maxHeartbeats 4000000 in
theorem close42_T1 (h : BkAt w base own g b gp gl vc vd lv) (hbase : base ≤ w.heap.size) (p : Nat) (hp : p < b.ports.length) (x : List S45) (Ax : Option Addr) (cx : Nat) (hx : Away k45 own w Ax x) (hcx : x.length ≤ cx) (hpx : partsRs x ≤ 100000) (s : S34) (As : Option Addr) (cs : Nat) (hs : Away k104 own w As s.f1) (hcs : s.f1.length ≤ cs) (hps : partsC s.f1 ≤ 100000) (y : List S45) (Ay : Option Addr) (cy : Nat) (hy : Away k45 own w Ay y) (hcy : y.length ≤ cy) (hpy : partsRs y ≤ 100000) (m : b.mode = 1) (hc : b.copied = true) :
    Calls Try.prog 42 #[.pointer (some ⟨g, 0, none⟩), .int .i64 p, .slice Ax x.length cx, .agg #[.int .i64 s.f0, .slice As s.f1.length cs], .slice Ay y.length cy] w fun e w' => e = .returned (.bool false) ∧ BkPost base own g (b.shutP p) w w' := by
  have H := Lib.hid h
  have Hbase := Lib.hid hbase
  have Hm := Lib.hid m
  obtain ⟨l1, l2, l3⟩ := h.lts
  have n1 := h.ne_gp
  have n2 := h.ne_gl
  have n3 := h.ne_pl
  have n4 := h.ne_gp.symm
  have n5 := h.ne_pl.symm
  have Hs := Lib.hid hs
  have Hcs := Lib.hid hcs
  have Hps := Lib.hid hps
  have Hx := Lib.hid hx
  have Hcx := Lib.hid hcx
  have Hpx := Lib.hid hpx
  have Hy := Lib.hid hy
  have Hcy := Lib.hid hcy
  have Hpy := Lib.hid hpy
  have U0 : Hid (Upd own w own (w.alloc (.cells #[.int .i64 s.f0, .slice As s.f1.length cs] 34))) := Upd.of_below ((Below.refl _ _).alloc (Nat.le_refl _) _) (fun _ _ => rfl)
  have H0 : Hid (BkAt (w.alloc (.cells #[.int .i64 s.f0, .slice As s.f1.length cs] 34)) base own g b gp gl vc vd lv) := h.below ((Below.refl _ _).alloc (Nat.le_refl _) _)
  have c0 : w.cell? ⟨g, 0, none⟩ = some (.int .i64 1) := by rw [← Hm.out]; exact h.facts.1
  have c1 : w.cell? ⟨g, 1, none⟩ = some (.int .i64 b.back) := h.facts.2.1
  have c3 : w.cell? ⟨g, 3, none⟩ = some (.slice (some ⟨gp, 0, none⟩) b.ports.length b.ports.length) := h.facts.2.2.2.1
  have c4 : w.cell? ⟨g, 4, none⟩ = some (.slice (some ⟨gl, 0, none⟩) b.ports.length b.ports.length) := h.facts.2.2.2.2.1
  have c5 : w.cell? ⟨g, 5, none⟩ = some (.bool b.copied) := h.facts.2.2.2.2.2.1
  rw [hc] at c5
  have Hc := Lib.hid hc
  have cp := h.port p hp
  have fp : w.frozen? ⟨gp, p, none⟩ = false := blk_frozen h.hp p
  generalize b.ports.getD p 0 = q0 at cp
  clear h hbase m hs hcs hps hx hcx hpx hy hcy hpy hc
  go_enter Try.func42, Try.ntmps42
  go_wp2
  go_ret
  exact ⟨rfl, own, ⟨_, _, _, _, _, (H.out.portd p hp).below ((Below.refl _ _).alloc (Nat.le_refl _) _)⟩, (Upd.setb (t := 1) (p := ⟨gp, p, none⟩) (Upd.refl own w) H.out.op).trans (Upd.of_below ((Below.refl _ _).alloc (Nat.le_refl _) _) (fun _ _ => rfl))⟩
set_option maxRecDepth 100000 in
set_option maxHeartbeats 4000000 in
theorem close42_T2 (h : BkAt w base own g b gp gl vc vd lv) (hbase : base ≤ w.heap.size) (p : Nat) (hp : p < b.ports.length) (x : List S45) (Ax : Option Addr) (cx : Nat) (hx : Away k45 own w Ax x) (hcx : x.length ≤ cx) (hpx : partsRs x ≤ 100000) (s : S34) (As : Option Addr) (cs : Nat) (hs : Away k104 own w As s.f1) (hcs : s.f1.length ≤ cs) (hps : partsC s.f1 ≤ 100000) (y : List S45) (Ay : Option Addr) (cy : Nat) (hy : Away k45 own w Ay y) (hcy : y.length ≤ cy) (hpy : partsRs y ≤ 100000) (m : b.mode = 2) (hc : b.copied = true) :
    Calls Try.prog 42 #[.pointer (some ⟨g, 0, none⟩), .int .i64 p, .slice Ax x.length cx, .agg #[.int .i64 s.f0, .slice As s.f1.length cs], .slice Ay y.length cy] w fun e w' => e = .returned (.bool false) ∧ BkPost base own g (b.shutP p) w w' := by
  have H := Lib.hid h
  have Hbase := Lib.hid hbase
  have Hm := Lib.hid m
  obtain ⟨l1, l2, l3⟩ := h.lts
  have n1 := h.ne_gp
  have n2 := h.ne_gl
  have n3 := h.ne_pl
  have n4 := h.ne_gp.symm
  have n5 := h.ne_pl.symm
  have Hs := Lib.hid hs
  have Hcs := Lib.hid hcs
  have Hps := Lib.hid hps
  have Hx := Lib.hid hx
  have Hcx := Lib.hid hcx
  have Hpx := Lib.hid hpx
  have Hy := Lib.hid hy
  have Hcy := Lib.hid hcy
  have Hpy := Lib.hid hpy
  have U0 : Hid (Upd own w own (w.alloc (.cells #[.int .i64 s.f0, .slice As s.f1.length cs] 34))) := Upd.of_below ((Below.refl _ _).alloc (Nat.le_refl _) _) (fun _ _ => rfl)
  have H0 : Hid (BkAt (w.alloc (.cells #[.int .i64 s.f0, .slice As s.f1.length cs] 34)) base own g b gp gl vc vd lv) := h.below ((Below.refl _ _).alloc (Nat.le_refl _) _)
  have c0 : w.cell? ⟨g, 0, none⟩ = some (.int .i64 2) := by rw [← Hm.out]; exact h.facts.1
  have c1 : w.cell? ⟨g, 1, none⟩ = some (.int .i64 b.back) := h.facts.2.1
  have c3 : w.cell? ⟨g, 3, none⟩ = some (.slice (some ⟨gp, 0, none⟩) b.ports.length b.ports.length) := h.facts.2.2.2.1
  have c4 : w.cell? ⟨g, 4, none⟩ = some (.slice (some ⟨gl, 0, none⟩) b.ports.length b.ports.length) := h.facts.2.2.2.2.1
  have c5 : w.cell? ⟨g, 5, none⟩ = some (.bool b.copied) := h.facts.2.2.2.2.2.1
  rw [hc] at c5
  have Hc := Lib.hid hc
  have cp := h.port p hp
  have fp : w.frozen? ⟨gp, p, none⟩ = false := blk_frozen h.hp p
  generalize b.ports.getD p 0 = q0 at cp
  clear h hbase m hs hcs hps hx hcx hpx hy hcy hpy hc
  go_enter Try.func42, Try.ntmps42
  go_wp2
  go_ret
  exact ⟨rfl, own, ⟨_, _, _, _, _, (H.out.portd p hp).below ((Below.refl _ _).alloc (Nat.le_refl _) _)⟩, (Upd.setb (t := 1) (p := ⟨gp, p, none⟩) (Upd.refl own w) H.out.op).trans (Upd.of_below ((Below.refl _ _).alloc (Nat.le_refl _) _) (fun _ _ => rfl))⟩
set_option maxRecDepth 100000 in
set_option maxHeartbeats 4000000 in
theorem close42_T3 (h : BkAt w base own g b gp gl vc vd lv) (hbase : base ≤ w.heap.size) (p : Nat) (hp : p < b.ports.length) (x : List S45) (Ax : Option Addr) (cx : Nat) (hx : Away k45 own w Ax x) (hcx : x.length ≤ cx) (hpx : partsRs x ≤ 100000) (s : S34) (As : Option Addr) (cs : Nat) (hs : Away k104 own w As s.f1) (hcs : s.f1.length ≤ cs) (hps : partsC s.f1 ≤ 100000) (y : List S45) (Ay : Option Addr) (cy : Nat) (hy : Away k45 own w Ay y) (hcy : y.length ≤ cy) (hpy : partsRs y ≤ 100000) (hll : (b.logs.getD p []).length + x.length ≤ 1000000000000) (m : b.mode = 3) (hc : b.copied = true) :
    Calls Try.prog 42 #[.pointer (some ⟨g, 0, none⟩), .int .i64 p, .slice Ax x.length cx, .agg #[.int .i64 s.f0, .slice As s.f1.length cs], .slice Ay y.length cy] w fun e w' => e = .returned (.bool false) ∧ BkPost base own g ((b.logged p x).shutP p) w w' := by
  have H := Lib.hid h
  have Hbase := Lib.hid hbase
  have Hm := Lib.hid m
  obtain ⟨l1, l2, l3⟩ := h.lts
  have n1 := h.ne_gp
  have n2 := h.ne_gl
  have n3 := h.ne_pl
  have n4 := h.ne_gp.symm
  have n5 := h.ne_pl.symm
  have Hs := Lib.hid hs
  have Hcs := Lib.hid hcs
  have Hps := Lib.hid hps
  have Hx := Lib.hid hx
  have Hcx := Lib.hid hcx
  have Hpx := Lib.hid hpx
  have Hy := Lib.hid hy
  have Hcy := Lib.hid hcy
  have Hpy := Lib.hid hpy
  have U0 : Hid (Upd own w own (w.alloc (.cells #[.int .i64 s.f0, .slice As s.f1.length cs] 34))) := Upd.of_below ((Below.refl _ _).alloc (Nat.le_refl _) _) (fun _ _ => rfl)
  have H0 : Hid (BkAt (w.alloc (.cells #[.int .i64 s.f0, .slice As s.f1.length cs] 34)) base own g b gp gl vc vd lv) := h.below ((Below.refl _ _).alloc (Nat.le_refl _) _)
  have Hll := Lib.hid hll
  have c0 : w.cell? ⟨g, 0, none⟩ = some (.int .i64 3) := by rw [← Hm.out]; exact h.facts.1
  have c1 : w.cell? ⟨g, 1, none⟩ = some (.int .i64 b.back) := h.facts.2.1
  have c3 : w.cell? ⟨g, 3, none⟩ = some (.slice (some ⟨gp, 0, none⟩) b.ports.length b.ports.length) := h.facts.2.2.2.1
  have c4 : w.cell? ⟨g, 4, none⟩ = some (.slice (some ⟨gl, 0, none⟩) b.ports.length b.ports.length) := h.facts.2.2.2.2.1
  have c5 : w.cell? ⟨g, 5, none⟩ = some (.bool b.copied) := h.facts.2.2.2.2.2.1
  rw [hc] at c5
  have Hc := Lib.hid hc
  have cp := h.port p hp
  have fp : w.frozen? ⟨gp, p, none⟩ = false := blk_frozen h.hp p
  obtain ⟨vp, hvp⟩ : ∃ vp, lv.getD p (.slice none 0 0) = vp := ⟨_, rfl⟩
  have cl : w.cell? ⟨gl, p, none⟩ = some vp := (h.log p hp).trans (congrArg some hvp)
  have HRp : Hid (Kd.R k45 45 w base (fun k => own k = 6 + p) vp (b.logs.getD p [])) := hvp ▸ h.rl p hp
  have Hvp := Lib.hid hvp
  have HX58 : Hid (∀ W : World, Below w.heap.size w W → Calls Try.prog 58 #[.slice Ax x.length cx] W fun e w' => ∃ v, e = .returned v ∧ Hid (Kd.R k45 45 w' W.heap.size (fun _ => True) v x) ∧ Hid (Below W.heap.size W w')) := fun W hW => ownRecords58 x Ax cx W (Kd.C_below hx.now hW) hcx hpx
  clear hvp
  generalize b.ports.getD p 0 = q0 at cp
  clear h hbase m hs hcs hps hx hcx hpx hy hcy hpy hc hll
  go_enter Try.func42, Try.ntmps42
  go_wp2
  refine start_ (n := 19) (S := (fun w' => w'.cell? ⟨g, 4, none⟩ = some (.slice (some ⟨gl, 0, none⟩) b.ports.length b.ports.length) ∧ w'.cell? ⟨gl, p, none⟩ = some vp)) (ds := [18]) #[false, false, false, false, false, false, false, false, false, false, false, false, false, false, false, false, false, false, false] (by kernel_rfl) rfl rfl ⟨pw_cell_below (((Below.refl _ _).alloc (Nat.le_refl _) _).drew) c4, pw_cell_below (((Below.refl _ _).alloc (Nat.le_refl _) _).drew) cl⟩ (fun hHeld => ?_)
  have HBo : Hid (Below w.heap.size w (w.alloc (.cells #[.int .i64 s.f0, .slice As s.f1.length cs] 34)).drew) := (((Below.refl _ _).alloc (Nat.le_refl _) _).drew)
  generalize (w.alloc (.cells #[.int .i64 s.f0, .slice As s.f1.length cs] 34)).drew = W at hHeld HBo ⊢
  refine pure_ (i := 0) (N := some 35) (v := ?_) (a' := ?_) #[true, false, false, false, false, false, false, false, false, false, false, false, false, false, false, false, false, false, false] rfl rfl (by kernel_rfl) (fun _ _ _ h => h) (Or.inl ⟨by rfl, ?_⟩) ?_ ?_
  rotate_left
  · intro w'
    go_simp
    with_reducible rfl
  rotate_left
  · simp only [Act.put, List.setIfInBounds_toArray, List.set_cons_zero, List.set_cons_succ]
    rfl
  refine pure_ (i := 1) (N := some 36) (v := ?_) (a' := ?_) #[true, true, false, false, false, false, false, false, false, false, false, false, false, false, false, false, false, false, false] rfl rfl (by kernel_rfl) (fun _ _ _ h => h) (Or.inl ⟨by rfl, ?_⟩) ?_ ?_
  rotate_left
  · intro w'
    go_simp
    with_reducible rfl
  rotate_left
  · simp only [Act.put, List.setIfInBounds_toArray, List.set_cons_zero, List.set_cons_succ]
    rfl
  refine pure_ (i := 2) (N := some 37) (v := ?_) (a' := ?_) #[true, true, true, false, false, false, false, false, false, false, false, false, false, false, false, false, false, false, false] rfl rfl (by kernel_rfl) (fun _ _ _ h => h) (Or.inl ⟨by rfl, ?_⟩) ?_ ?_
  rotate_left
  · intro w'
    go_simp
    with_reducible rfl
  rotate_left
  · simp only [Act.put, List.setIfInBounds_toArray, List.set_cons_zero, List.set_cons_succ]
    rfl
  refine pure_ (i := 3) (N := some 38) (v := ?_) (a' := ?_) #[true, true, true, true, false, false, false, false, false, false, false, false, false, false, false, false, false, false, false] rfl rfl (by kernel_rfl) (fun _ _ _ h => h) (Or.inl ⟨by rfl, ?_⟩) ?_ ?_
  rotate_left
  · intro w'
    go_simp
    with_reducible rfl
  rotate_left
  · simp only [Act.put, List.setIfInBounds_toArray, List.set_cons_zero, List.set_cons_succ]
    rfl
  refine take_ (i := 4) (N := some 39) (v := ?_) (a' := ?_) #[true, true, true, true, true, false, false, false, false, false, false, false, false, false, false, false, false, false, false] rfl rfl (by kernel_rfl) (fun _ _ _ h => h) (Or.inl ⟨by rfl, ?_⟩) hHeld ?_ ?_
  rotate_left
  · rintro w' ⟨s0, s1⟩
    go_simp
    with_reducible rfl
  rotate_left
  · simp only [Act.put, List.setIfInBounds_toArray, List.set_cons_zero, List.set_cons_succ]
    rfl
  refine pure_ (i := 5) (N := some 40) (v := ?_) (a' := ?_) #[true, true, true, true, true, true, false, false, false, false, false, false, false, false, false, false, false, false, false] rfl rfl (by kernel_rfl) (fun _ _ _ h => h) (Or.inl ⟨by rfl, ?_⟩) ?_ ?_
  rotate_left
  · intro w'
    go_simp
    with_reducible rfl
  rotate_left
  · simp only [Act.put, List.setIfInBounds_toArray, List.set_cons_zero, List.set_cons_succ]
    rfl
  refine pure_ (i := 6) (N := some 41) (v := ?_) (a' := ?_) #[true, true, true, true, true, true, true, false, false, false, false, false, false, false, false, false, false, false, false] rfl rfl (by kernel_rfl) (fun _ _ _ h => h) (Or.inl ⟨by rfl, ?_⟩) ?_ ?_
  rotate_left
  · intro w'
    go_simp
    with_reducible rfl
  rotate_left
  · simp only [Act.put, List.setIfInBounds_toArray, List.set_cons_zero, List.set_cons_succ]
    rfl
  refine pure_ (i := 7) (N := some 42) (v := ?_) (a' := ?_) #[true, true, true, true, true, true, true, true, false, false, false, false, false, false, false, false, false, false, false] rfl rfl (by kernel_rfl) (fun _ _ _ h => h) (Or.inl ⟨by rfl, ?_⟩) ?_ ?_
  rotate_left
  · intro w'
    go_simp
    with_reducible rfl
  rotate_left
  · simp only [Act.put, List.setIfInBounds_toArray, List.set_cons_zero, List.set_cons_succ]
    rfl
  refine pure_ (i := 8) (N := some 43) (v := ?_) (a' := ?_) #[true, true, true, true, true, true, true, true, true, false, false, false, false, false, false, false, false, false, false] rfl rfl (by kernel_rfl) (fun _ _ _ h => h) (Or.inl ⟨by rfl, ?_⟩) ?_ ?_
  rotate_left
  · intro w'
    go_simp
    with_reducible rfl
  rotate_left
  · simp only [Act.put, List.setIfInBounds_toArray, List.set_cons_zero, List.set_cons_succ]
    rfl
  refine pure_ (i := 9) (N := some 44) (v := ?_) (a' := ?_) #[true, true, true, true, true, true, true, true, true, true, false, false, false, false, false, false, false, false, false] rfl rfl (by kernel_rfl) (fun _ _ _ h => h) (Or.inl ⟨by rfl, ?_⟩) ?_ ?_
  rotate_left
  · intro w'
    go_simp
    with_reducible rfl
  rotate_left
  · simp only [Act.put, List.setIfInBounds_toArray, List.set_cons_zero, List.set_cons_succ]
    rfl
  refine take_ (i := 10) (N := some 45) (v := ?_) (a' := ?_) #[true, true, true, true, true, true, true, true, true, true, true, false, false, false, false, false, false, false, false] rfl rfl (by kernel_rfl) (fun _ _ _ h => h) (Or.inl ⟨by rfl, ?_⟩) hHeld ?_ ?_
  rotate_left
  · rintro w' ⟨s0, s1⟩
    go_simp
    with_reducible rfl
  rotate_left
  · simp only [Act.put, List.setIfInBounds_toArray, List.set_cons_zero, List.set_cons_succ]
    rfl
  refine pure_ (i := 11) (N := some 46) (v := ?_) (a' := ?_) #[true, true, true, true, true, true, true, true, true, true, true, true, false, false, false, false, false, false, false] rfl rfl (by kernel_rfl) (fun _ _ _ h => h) (Or.inl ⟨by rfl, ?_⟩) ?_ ?_
  rotate_left
  · intro w'
    go_simp
    with_reducible rfl
  rotate_left
  · simp only [Act.put, List.setIfInBounds_toArray, List.set_cons_zero, List.set_cons_succ]
    rfl
  refine pure_ (i := 12) (N := some 47) (v := ?_) (a' := ?_) #[true, true, true, true, true, true, true, true, true, true, true, true, true, false, false, false, false, false, false] rfl rfl (by kernel_rfl) (fun _ _ _ h => h) (Or.inl ⟨by rfl, ?_⟩) ?_ ?_
  rotate_left
  · intro w'
    go_simp
    with_reducible rfl
  rotate_left
  · simp only [Act.put, List.setIfInBounds_toArray, List.set_cons_zero, List.set_cons_succ]
    rfl
  refine take_ (i := 13) (N := some 48) (v := ?_) (a' := ?_) #[true, true, true, true, true, true, true, true, true, true, true, true, true, true, false, false, false, false, false] rfl rfl (by kernel_rfl) (fun _ _ _ h => h) (Or.inl ⟨by rfl, ?_⟩) hHeld ?_ ?_
  rotate_left
  · rintro w' ⟨s0, s1⟩
    go_simp
    with_reducible rfl
  rotate_left
  · simp only [Act.put, List.setIfInBounds_toArray, List.set_cons_zero, List.set_cons_succ]
    rfl
  refine pure_ (i := 14) (N := some 49) (v := ?_) (a' := ?_) #[true, true, true, true, true, true, true, true, true, true, true, true, true, true, true, false, false, false, false] rfl rfl (by kernel_rfl) (fun _ _ _ h => h) (Or.inl ⟨by rfl, ?_⟩) ?_ ?_
  rotate_left
  · intro w'
    go_simp
    with_reducible rfl
  rotate_left
  · simp only [Act.put, List.setIfInBounds_toArray, List.set_cons_zero, List.set_cons_succ]
    rfl
  refine one_ (i := 15) (N := some 50) #[true, true, true, true, true, true, true, true, true, true, true, true, true, true, true, true, false, false, false] rfl rfl (by kernel_rfl) (by decide) (fun K hK => ?_)
  refine goes_ Try.func58 (by kernel_rfl) rfl #[.slice Ax x.length cx] (by rfl) rfl rfl (by simp only [List.map_toArray, List.map_cons, List.map_nil]; rfl) ?_
  refine (HX58.out W HBo.out).mono ?_
  rintro e w3 ⟨u, rfl, hu, hb3⟩
  refine ⟨_, rfl, ?_⟩
  obtain ⟨Au, cu, rfl⟩ := Kd.R_slice hu.out
  refine hK.out _ _ ⟨pw_cell_below hb3.out hHeld.1, pw_cell_below hb3.out hHeld.2⟩ (fun hHeld => ?_)
  clear hK K
  refine norm_ (a' := ?_) ?_ ?_
  rotate_left
  · show Act.put _ (some 50) _ = _
    simp only [Act.put, List.setIfInBounds_toArray, List.set_cons_zero, List.set_cons_succ]
    rfl
  refine one_ (i := 16) (N := some 51) #[true, true, true, true, true, true, true, true, true, true, true, true, true, true, true, true, true, false, false] rfl rfl (by kernel_rfl) (by decide) (fun K hK => ?_)
  refine Kd.R_append_rows_step k45 (Rr := k45.M w3 base (fun k => W.heap.size ≤ k)) (w0 := w3) base (by rfl) (.tmp 48) (.tmp 50) 35 45 (.agg #[.string ⟨#[]⟩, .int .i64 0, .int .i64 0, .string ⟨#[]⟩, .slice none 0 0, .slice none 0 0]) 96 rfl Try.underlying35 info45 rfl (by decide) (by decide) vp (b.logs.getD p []) x Au x.length cu (fun k => own k = 6 + p ∨ w.heap.size ≤ k) (fun k => W.heap.size ≤ k) rfl rfl ?hO ?hR (fun _ _ hp => hp) ?hok ?hfr (Below.refl _ _) ?hS ?hl ?_
  case hO => exact Kd.R_below (Kd.R_below (Kd.R_mono HRp.out (fun _ hk => .inl hk)) HBo.out) hb3.out
  case hR => exact R_readsM hu.out (Nat.le_trans Hbase.out HBo.out.size)
  case hok => exact fun k hk => ⟨.inr (Nat.le_trans HBo.out.size hk), fun he => by have := Kd.R_lt HRp.out k he.symm; have := HBo.out.size; omega⟩
  case hfr => exact fun k hk => .inr (Nat.le_trans HBo.out.size (Nat.le_trans hb3.out.size hk))
  case hS => exact Nat.le_trans Hbase.out (Nat.le_trans HBo.out.size hb3.out.size)
  case hl => have := Hll.out; omega
  intro v1 w4 hO4 hB4 hg4 hat4
  have HA := Lib.hid (H.out.appended Hbase.out p hp (HBo.out.trans (hb3.out.mono HBo.out.size)) Hvp.out hg4 hO4)
  obtain ⟨A1, m1, c1, rfl⟩ := R_sliced hO4
  clear hO4 hB4 hg4 hat4
  refine hK.out _ _ ⟨HA.out.c4, HA.out.cl.trans (congrArg some Hvp.out)⟩ (fun hHeld => ?_)
  clear hK K
  refine norm_ (a' := ?_) ?_ ?_
  rotate_left
  · show Act.put _ (some 51) _ = _
    simp only [Act.put, List.setIfInBounds_toArray, List.set_cons_zero, List.set_cons_succ]
    rfl
  refine pure_ (i := 17) (N := some 52) (v := ?_) (a' := ?_) #[true, true, true, true, true, true, true, true, true, true, true, true, true, true, true, true, true, true, false] rfl rfl (by kernel_rfl) (fun _ _ _ h => h) (Or.inl ⟨by rfl, ?_⟩) ?_ ?_
  rotate_left
  · intro w'
    go_simp
    with_reducible rfl
  rotate_left
  · simp only [Act.put, List.setIfInBounds_toArray, List.set_cons_zero, List.set_cons_succ]
    rfl
  refine last_ (i := 18) (N := none) #[true, true, true, true, true, true, true, true, true, true, true, true, true, true, true, true, true, true, true] rfl rfl (by kernel_rfl) (by decide) (fun K hK => ?_)
  have hs := hHeld.2
  have hf := HA.out.fl
  refine skip_ (w1 := ?_) (by rfl) rfl ?_ ?_
  rotate_left
  · go_simp
    rfl
  refine hK.out _ _ ?_
  clear hK K hs hf
  refine done_ (by kernel_rfl) ?_
  have H4 : Hid (BkAt _ base _ g (b.logged p x) gp gl vc vd _) := HA.out.bk
  have U4 := Lib.hid HA.out.upd
  clear hHeld
  generalize tagged own w.heap.size w4.heap.size (6 + p) = own4 at H4 U4
  generalize (w4.setCell ⟨gl, p, none⟩ (.slice A1 m1 c1)) = w5 at H4 U4 ⊢
  obtain ⟨k1, k2, k3⟩ := H4.out.lts
  have c0 : w5.cell? ⟨g, 0, none⟩ = some (.int .i64 3) := by rw [← Hm.out]; exact H4.out.facts.1
  have c1 : w5.cell? ⟨g, 1, none⟩ = some (.int .i64 b.back) := H4.out.facts.2.1
  have c3 : w5.cell? ⟨g, 3, none⟩ = some (.slice (some ⟨gp, 0, none⟩) b.ports.length b.ports.length) := H4.out.facts.2.2.2.1
  have c4 : w5.cell? ⟨g, 4, none⟩ = some (.slice (some ⟨gl, 0, none⟩) b.ports.length b.ports.length) := H4.out.facts.2.2.2.2.1
  have c5 : w5.cell? ⟨g, 5, none⟩ = some (.bool b.copied) := H4.out.facts.2.2.2.2.2.1
  rw [Hc.out] at c5
  have cp5 : w5.cell? ⟨gp, p, none⟩ = some (.int .i64 (b.ports.getD p 0)) := H4.out.port p hp
  have fp5 : w5.frozen? ⟨gp, p, none⟩ = false := blk_frozen H4.out.hp p
  generalize b.ports.getD p 0 = q5 at cp5
  go_wp2
  go_ret
  exact ⟨rfl, own4, ⟨_, _, _, _, _, H4.out.portd p hp⟩, U4.out.setb (t := 1) (p := ⟨gp, p, none⟩) H4.out.op⟩
set_option maxRecDepth 100000 in
set_option maxHeartbeats 4000000 in
theorem close42_F2 (h : BkAt w base own g b gp gl vc vd lv) (hbase : base ≤ w.heap.size) (p : Nat) (hp : p < b.ports.length) (x : List S45) (Ax : Option Addr) (cx : Nat) (hx : Away k45 own w Ax x) (hcx : x.length ≤ cx) (hpx : partsRs x ≤ 100000) (s : S34) (As : Option Addr) (cs : Nat) (hs : Away k104 own w As s.f1) (hcs : s.f1.length ≤ cs) (hps : partsC s.f1 ≤ 100000) (y : List S45) (Ay : Option Addr) (cy : Nat) (hy : Away k45 own w Ay y) (hcy : y.length ≤ cy) (hpy : partsRs y ≤ 100000) (m : b.mode = 2) (hc : b.copied = false) :
    Calls Try.prog 42 #[.pointer (some ⟨g, 0, none⟩), .int .i64 p, .slice Ax x.length cx, .agg #[.int .i64 s.f0, .slice As s.f1.length cs], .slice Ay y.length cy] w fun e w' => e = .returned (.bool true) ∧ BkPost base own g ((b.taken s y).shutP p) w w' := by
  have H := Lib.hid h
  have Hbase := Lib.hid hbase
  have Hm := Lib.hid m
  obtain ⟨l1, l2, l3⟩ := h.lts
  have n1 := h.ne_gp
  have n2 := h.ne_gl
  have n3 := h.ne_pl
  have n4 := h.ne_gp.symm
  have n5 := h.ne_pl.symm
  have Hs := Lib.hid hs
  have Hcs := Lib.hid hcs
  have Hps := Lib.hid hps
  have Hx := Lib.hid hx
  have Hcx := Lib.hid hcx
  have Hpx := Lib.hid hpx
  have Hy := Lib.hid hy
  have Hcy := Lib.hid hcy
  have Hpy := Lib.hid hpy
  have U0 : Hid (Upd own w own (w.alloc (.cells #[.int .i64 s.f0, .slice As s.f1.length cs] 34))) := Upd.of_below ((Below.refl _ _).alloc (Nat.le_refl _) _) (fun _ _ => rfl)
  have H0 : Hid (BkAt (w.alloc (.cells #[.int .i64 s.f0, .slice As s.f1.length cs] 34)) base own g b gp gl vc vd lv) := h.below ((Below.refl _ _).alloc (Nat.le_refl _) _)
  have c0 : w.cell? ⟨g, 0, none⟩ = some (.int .i64 2) := by rw [← Hm.out]; exact h.facts.1
  have c1 : w.cell? ⟨g, 1, none⟩ = some (.int .i64 b.back) := h.facts.2.1
  have c3 : w.cell? ⟨g, 3, none⟩ = some (.slice (some ⟨gp, 0, none⟩) b.ports.length b.ports.length) := h.facts.2.2.2.1
  have c4 : w.cell? ⟨g, 4, none⟩ = some (.slice (some ⟨gl, 0, none⟩) b.ports.length b.ports.length) := h.facts.2.2.2.2.1
  have c5 : w.cell? ⟨g, 5, none⟩ = some (.bool b.copied) := h.facts.2.2.2.2.2.1
  rw [hc] at c5
  have Hc := Lib.hid hc
  have cp := h.port p hp
  have fp : w.frozen? ⟨gp, p, none⟩ = false := blk_frozen h.hp p
  generalize b.ports.getD p 0 = q0 at cp
  clear h hbase m hs hcs hps hx hcx hpx hy hcy hpy hc
  go_enter Try.func42, Try.ntmps42
  go_wp2_with (first
    | (go_at_call 57; refine (take57 H0.out (Nat.le_trans Hbase.out U0.out.size) s As cs ((Hs.out.upd U0.out).now) Hcs.out Hps.out y Ay cy ((Hy.out.upd U0.out).now) Hcy.out Hpy.out).mono ?_; rintro e w2 ⟨rfl, own2, ⟨gp2, gl2, vc2, vd2, lv2, h2⟩, u2⟩
       have H2 : Hid (BkAt w2 base own2 g (b.taken s y) gp2 gl2 vc2 vd2 lv2) := h2
       have U2 := Lib.hid (U0.out.trans u2)
       obtain ⟨k1, k2, k3⟩ := h2.lts
       have o1 := h2.ne_gp
       have o2 := h2.ne_gl
       have o3 := h2.ne_pl
       have o4 := h2.ne_gp.symm
       have o5 := h2.ne_pl.symm
       have c0 : w2.cell? ⟨g, 0, none⟩ = some (.int .i64 2) := by rw [← Hm.out]; exact h2.facts.1
       have c1 : w2.cell? ⟨g, 1, none⟩ = some (.int .i64 b.back) := h2.facts.2.1
       have c3 : w2.cell? ⟨g, 3, none⟩ = some (.slice (some ⟨gp2, 0, none⟩) b.ports.length b.ports.length) := h2.facts.2.2.2.1
       have c4 : w2.cell? ⟨g, 4, none⟩ = some (.slice (some ⟨gl2, 0, none⟩) b.ports.length b.ports.length) := h2.facts.2.2.2.2.1
       have c5 : w2.cell? ⟨g, 5, none⟩ = some (.bool true) := h2.facts.2.2.2.2.2.1
       have cp2 : w2.cell? ⟨gp2, p, none⟩ = some (.int .i64 (b.ports.getD p 0)) := h2.port p hp
       have fp2 : w2.frozen? ⟨gp2, p, none⟩ = false := blk_frozen h2.hp p
       generalize b.ports.getD p 0 = q2 at cp2
       clear h2 u2))
  go_ret
  exact ⟨rfl, own2, ⟨_, _, _, _, _, H2.out.portd p hp⟩, U2.out.setb (t := 1) (p := ⟨gp2, p, none⟩) H2.out.op⟩
set_option maxRecDepth 100000 in
set_option maxHeartbeats 4000000 in
theorem close42_F3 (h : BkAt w base own g b gp gl vc vd lv) (hbase : base ≤ w.heap.size) (p : Nat) (hp : p < b.ports.length) (x : List S45) (Ax : Option Addr) (cx : Nat) (hx : Away k45 own w Ax x) (hcx : x.length ≤ cx) (hpx : partsRs x ≤ 100000) (s : S34) (As : Option Addr) (cs : Nat) (hs : Away k104 own w As s.f1) (hcs : s.f1.length ≤ cs) (hps : partsC s.f1 ≤ 100000) (y : List S45) (Ay : Option Addr) (cy : Nat) (hy : Away k45 own w Ay y) (hcy : y.length ≤ cy) (hpy : partsRs y ≤ 100000) (hll : (b.logs.getD p []).length + x.length ≤ 1000000000000) (m : b.mode = 3) (hc : b.copied = false) :
    Calls Try.prog 42 #[.pointer (some ⟨g, 0, none⟩), .int .i64 p, .slice Ax x.length cx, .agg #[.int .i64 s.f0, .slice As s.f1.length cs], .slice Ay y.length cy] w fun e w' => e = .returned (.bool true) ∧ BkPost base own g (((b.taken s y).logged p x).shutP p) w w' := by
  have H := Lib.hid h
  have Hbase := Lib.hid hbase
  have Hm := Lib.hid m
  obtain ⟨l1, l2, l3⟩ := h.lts
  have n1 := h.ne_gp
  have n2 := h.ne_gl
  have n3 := h.ne_pl
  have n4 := h.ne_gp.symm
  have n5 := h.ne_pl.symm
  have Hs := Lib.hid hs
  have Hcs := Lib.hid hcs
  have Hps := Lib.hid hps
  have Hx := Lib.hid hx
  have Hcx := Lib.hid hcx
  have Hpx := Lib.hid hpx
  have Hy := Lib.hid hy
  have Hcy := Lib.hid hcy
  have Hpy := Lib.hid hpy
  have U0 : Hid (Upd own w own (w.alloc (.cells #[.int .i64 s.f0, .slice As s.f1.length cs] 34))) := Upd.of_below ((Below.refl _ _).alloc (Nat.le_refl _) _) (fun _ _ => rfl)
  have H0 : Hid (BkAt (w.alloc (.cells #[.int .i64 s.f0, .slice As s.f1.length cs] 34)) base own g b gp gl vc vd lv) := h.below ((Below.refl _ _).alloc (Nat.le_refl _) _)
  have Hll := Lib.hid hll
  have c0 : w.cell? ⟨g, 0, none⟩ = some (.int .i64 3) := by rw [← Hm.out]; exact h.facts.1
  have c1 : w.cell? ⟨g, 1, none⟩ = some (.int .i64 b.back) := h.facts.2.1
  have c3 : w.cell? ⟨g, 3, none⟩ = some (.slice (some ⟨gp, 0, none⟩) b.ports.length b.ports.length) := h.facts.2.2.2.1
  have c4 : w.cell? ⟨g, 4, none⟩ = some (.slice (some ⟨gl, 0, none⟩) b.ports.length b.ports.length) := h.facts.2.2.2.2.1
  have c5 : w.cell? ⟨g, 5, none⟩ = some (.bool b.copied) := h.facts.2.2.2.2.2.1
  rw [hc] at c5
  have Hc := Lib.hid hc
  have cp := h.port p hp
  have fp : w.frozen? ⟨gp, p, none⟩ = false := blk_frozen h.hp p
  generalize b.ports.getD p 0 = q0 at cp
  clear h hbase m hs hcs hps hx hcx hpx hy hcy hpy hc hll
  go_enter Try.func42, Try.ntmps42
  go_wp2_with (first
    | (go_at_call 57; refine (take57 H0.out (Nat.le_trans Hbase.out U0.out.size) s As cs ((Hs.out.upd U0.out).now) Hcs.out Hps.out y Ay cy ((Hy.out.upd U0.out).now) Hcy.out Hpy.out).mono ?_; rintro e w2 ⟨rfl, own2, ⟨gp2, gl2, vc2, vd2, lv2, h2⟩, u2⟩
       have H2 : Hid (BkAt w2 base own2 g (b.taken s y) gp2 gl2 vc2 vd2 lv2) := h2
       have U2 := Lib.hid (U0.out.trans u2)
       obtain ⟨k1, k2, k3⟩ := h2.lts
       have o1 := h2.ne_gp
       have o2 := h2.ne_gl
       have o3 := h2.ne_pl
       have o4 := h2.ne_gp.symm
       have o5 := h2.ne_pl.symm
       have c0 : w2.cell? ⟨g, 0, none⟩ = some (.int .i64 3) := by rw [← Hm.out]; exact h2.facts.1
       have c1 : w2.cell? ⟨g, 1, none⟩ = some (.int .i64 b.back) := h2.facts.2.1
       have c3 : w2.cell? ⟨g, 3, none⟩ = some (.slice (some ⟨gp2, 0, none⟩) b.ports.length b.ports.length) := h2.facts.2.2.2.1
       have c4 : w2.cell? ⟨g, 4, none⟩ = some (.slice (some ⟨gl2, 0, none⟩) b.ports.length b.ports.length) := h2.facts.2.2.2.2.1
       have c5 : w2.cell? ⟨g, 5, none⟩ = some (.bool true) := h2.facts.2.2.2.2.2.1
       have cp2 : w2.cell? ⟨gp2, p, none⟩ = some (.int .i64 (b.ports.getD p 0)) := h2.port p hp
       have fp2 : w2.frozen? ⟨gp2, p, none⟩ = false := blk_frozen h2.hp p
       generalize b.ports.getD p 0 = q2 at cp2
       obtain ⟨vp, hvp⟩ : ∃ vp, lv2.getD p (.slice none 0 0) = vp := ⟨_, rfl⟩
       have cl2 : w2.cell? ⟨gl2, p, none⟩ = some vp := (h2.log p hp).trans (congrArg some hvp)
       have HRp : Hid (Kd.R k45 45 w2 base (fun k => own2 k = 6 + p) vp (b.logs.getD p [])) := hvp ▸ h2.rl p hp
       have Hvp := Lib.hid hvp
       clear hvp
       clear h2 u2))
  have HX58 : Hid (∀ W : World, Below w2.heap.size w2 W → Calls Try.prog 58 #[.slice Ax x.length cx] W fun e w' => ∃ v, e = .returned v ∧ Hid (Kd.R k45 45 w' W.heap.size (fun _ => True) v x) ∧ Hid (Below W.heap.size W w')) := fun W hW => ownRecords58 x Ax cx W (Kd.C_below (Hx.out.upd U2.out).now hW) Hcx.out Hpx.out
  have Hbase2 := Lib.hid (Nat.le_trans Hbase.out U2.out.size)
  have Hbase := Hbase2
  refine start_ (n := 19) (S := (fun w' => w'.cell? ⟨g, 4, none⟩ = some (.slice (some ⟨gl2, 0, none⟩) b.ports.length b.ports.length) ∧ w'.cell? ⟨gl2, p, none⟩ = some vp)) (ds := [18]) #[false, false, false, false, false, false, false, false, false, false, false, false, false, false, false, false, false, false, false] (by kernel_rfl) rfl rfl ⟨pw_cell_below (Below.refl _ _).drew c4, pw_cell_below (Below.refl _ _).drew cl2⟩ (fun hHeld => ?_)
  have HBo : Hid (Below w2.heap.size w2 w2.drew) := (Below.refl _ _).drew
  generalize w2.drew = W at hHeld HBo ⊢
  refine pure_ (i := 0) (N := some 35) (v := ?_) (a' := ?_) #[true, false, false, false, false, false, false, false, false, false, false, false, false, false, false, false, false, false, false] rfl rfl (by kernel_rfl) (fun _ _ _ h => h) (Or.inl ⟨by rfl, ?_⟩) ?_ ?_
  rotate_left
  · intro w'
    go_simp
    with_reducible rfl
  rotate_left
  · simp only [Act.put, List.setIfInBounds_toArray, List.set_cons_zero, List.set_cons_succ]
    rfl
  refine pure_ (i := 1) (N := some 36) (v := ?_) (a' := ?_) #[true, true, false, false, false, false, false, false, false, false, false, false, false, false, false, false, false, false, false] rfl rfl (by kernel_rfl) (fun _ _ _ h => h) (Or.inl ⟨by rfl, ?_⟩) ?_ ?_
  rotate_left
  · intro w'
    go_simp
    with_reducible rfl
  rotate_left
  · simp only [Act.put, List.setIfInBounds_toArray, List.set_cons_zero, List.set_cons_succ]
    rfl
  refine pure_ (i := 2) (N := some 37) (v := ?_) (a' := ?_) #[true, true, true, false, false, false, false, false, false, false, false, false, false, false, false, false, false, false, false] rfl rfl (by kernel_rfl) (fun _ _ _ h => h) (Or.inl ⟨by rfl, ?_⟩) ?_ ?_
  rotate_left
  · intro w'
    go_simp
    with_reducible rfl
  rotate_left
  · simp only [Act.put, List.setIfInBounds_toArray, List.set_cons_zero, List.set_cons_succ]
    rfl
  refine pure_ (i := 3) (N := some 38) (v := ?_) (a' := ?_) #[true, true, true, true, false, false, false, false, false, false, false, false, false, false, false, false, false, false, false] rfl rfl (by kernel_rfl) (fun _ _ _ h => h) (Or.inl ⟨by rfl, ?_⟩) ?_ ?_
  rotate_left
  · intro w'
    go_simp
    with_reducible rfl
  rotate_left
  · simp only [Act.put, List.setIfInBounds_toArray, List.set_cons_zero, List.set_cons_succ]
    rfl
  refine take_ (i := 4) (N := some 39) (v := ?_) (a' := ?_) #[true, true, true, true, true, false, false, false, false, false, false, false, false, false, false, false, false, false, false] rfl rfl (by kernel_rfl) (fun _ _ _ h => h) (Or.inl ⟨by rfl, ?_⟩) hHeld ?_ ?_
  rotate_left
  · rintro w' ⟨s0, s1⟩
    go_simp
    with_reducible rfl
  rotate_left
  · simp only [Act.put, List.setIfInBounds_toArray, List.set_cons_zero, List.set_cons_succ]
    rfl
  refine pure_ (i := 5) (N := some 40) (v := ?_) (a' := ?_) #[true, true, true, true, true, true, false, false, false, false, false, false, false, false, false, false, false, false, false] rfl rfl (by kernel_rfl) (fun _ _ _ h => h) (Or.inl ⟨by rfl, ?_⟩) ?_ ?_
  rotate_left
  · intro w'
    go_simp
    with_reducible rfl
  rotate_left
  · simp only [Act.put, List.setIfInBounds_toArray, List.set_cons_zero, List.set_cons_succ]
    rfl
  refine pure_ (i := 6) (N := some 41) (v := ?_) (a' := ?_) #[true, true, true, true, true, true, true, false, false, false, false, false, false, false, false, false, false, false, false] rfl rfl (by kernel_rfl) (fun _ _ _ h => h) (Or.inl ⟨by rfl, ?_⟩) ?_ ?_
  rotate_left
  · intro w'
    go_simp
    with_reducible rfl
  rotate_left
  · simp only [Act.put, List.setIfInBounds_toArray, List.set_cons_zero, List.set_cons_succ]
    rfl
  refine pure_ (i := 7) (N := some 42) (v := ?_) (a' := ?_) #[true, true, true, true, true, true, true, true, false, false, false, false, false, false, false, false, false, false, false] rfl rfl (by kernel_rfl) (fun _ _ _ h => h) (Or.inl ⟨by rfl, ?_⟩) ?_ ?_
  rotate_left
  · intro w'
    go_simp
    with_reducible rfl
  rotate_left
  · simp only [Act.put, List.setIfInBounds_toArray, List.set_cons_zero, List.set_cons_succ]
    rfl
  refine pure_ (i := 8) (N := some 43) (v := ?_) (a' := ?_) #[true, true, true, true, true, true, true, true, true, false, false, false, false, false, false, false, false, false, false] rfl rfl (by kernel_rfl) (fun _ _ _ h => h) (Or.inl ⟨by rfl, ?_⟩) ?_ ?_
  rotate_left
  · intro w'
    go_simp
    with_reducible rfl
  rotate_left
  · simp only [Act.put, List.setIfInBounds_toArray, List.set_cons_zero, List.set_cons_succ]
    rfl
  refine pure_ (i := 9) (N := some 44) (v := ?_) (a' := ?_) #[true, true, true, true, true, true, true, true, true, true, false, false, false, false, false, false, false, false, false] rfl rfl (by kernel_rfl) (fun _ _ _ h => h) (Or.inl ⟨by rfl, ?_⟩) ?_ ?_
  rotate_left
  · intro w'
    go_simp
    with_reducible rfl
  rotate_left
  · simp only [Act.put, List.setIfInBounds_toArray, List.set_cons_zero, List.set_cons_succ]
    rfl
  refine take_ (i := 10) (N := some 45) (v := ?_) (a' := ?_) #[true, true, true, true, true, true, true, true, true, true, true, false, false, false, false, false, false, false, false] rfl rfl (by kernel_rfl) (fun _ _ _ h => h) (Or.inl ⟨by rfl, ?_⟩) hHeld ?_ ?_
  rotate_left
  · rintro w' ⟨s0, s1⟩
    go_simp
    with_reducible rfl
  rotate_left
  · simp only [Act.put, List.setIfInBounds_toArray, List.set_cons_zero, List.set_cons_succ]
    rfl
  refine pure_ (i := 11) (N := some 46) (v := ?_) (a' := ?_) #[true, true, true, true, true, true, true, true, true, true, true, true, false, false, false, false, false, false, false] rfl rfl (by kernel_rfl) (fun _ _ _ h => h) (Or.inl ⟨by rfl, ?_⟩) ?_ ?_
  rotate_left
  · intro w'
    go_simp
    with_reducible rfl
  rotate_left
  · simp only [Act.put, List.setIfInBounds_toArray, List.set_cons_zero, List.set_cons_succ]
    rfl
  refine pure_ (i := 12) (N := some 47) (v := ?_) (a' := ?_) #[true, true, true, true, true, true, true, true, true, true, true, true, true, false, false, false, false, false, false] rfl rfl (by kernel_rfl) (fun _ _ _ h => h) (Or.inl ⟨by rfl, ?_⟩) ?_ ?_
  rotate_left
  · intro w'
    go_simp
    with_reducible rfl
  rotate_left
  · simp only [Act.put, List.setIfInBounds_toArray, List.set_cons_zero, List.set_cons_succ]
    rfl
  refine take_ (i := 13) (N := some 48) (v := ?_) (a' := ?_) #[true, true, true, true, true, true, true, true, true, true, true, true, true, true, false, false, false, false, false] rfl rfl (by kernel_rfl) (fun _ _ _ h => h) (Or.inl ⟨by rfl, ?_⟩) hHeld ?_ ?_
  rotate_left
  · rintro w' ⟨s0, s1⟩
    go_simp
    with_reducible rfl
  rotate_left
  · simp only [Act.put, List.setIfInBounds_toArray, List.set_cons_zero, List.set_cons_succ]
    rfl
  refine pure_ (i := 14) (N := some 49) (v := ?_) (a' := ?_) #[true, true, true, true, true, true, true, true, true, true, true, true, true, true, true, false, false, false, false] rfl rfl (by kernel_rfl) (fun _ _ _ h => h) (Or.inl ⟨by rfl, ?_⟩) ?_ ?_
  rotate_left
  · intro w'
    go_simp
    with_reducible rfl
  rotate_left
  · simp only [Act.put, List.setIfInBounds_toArray, List.set_cons_zero, List.set_cons_succ]
    rfl
  refine one_ (i := 15) (N := some 50) #[true, true, true, true, true, true, true, true, true, true, true, true, true, true, true, true, false, false, false] rfl rfl (by kernel_rfl) (by decide) (fun K hK => ?_)
  refine goes_ Try.func58 (by kernel_rfl) rfl #[.slice Ax x.length cx] (by rfl) rfl rfl (by simp only [List.map_toArray, List.map_cons, List.map_nil]; rfl) ?_
  refine (HX58.out W HBo.out).mono ?_
  rintro e w3 ⟨u, rfl, hu, hb3⟩
  refine ⟨_, rfl, ?_⟩
  obtain ⟨Au, cu, rfl⟩ := Kd.R_slice hu.out
  refine hK.out _ _ ⟨pw_cell_below hb3.out hHeld.1, pw_cell_below hb3.out hHeld.2⟩ (fun hHeld => ?_)
  clear hK K
  refine norm_ (a' := ?_) ?_ ?_
  rotate_left
  · show Act.put _ (some 50) _ = _
    simp only [Act.put, List.setIfInBounds_toArray, List.set_cons_zero, List.set_cons_succ]
    rfl
  refine one_ (i := 16) (N := some 51) #[true, true, true, true, true, true, true, true, true, true, true, true, true, true, true, true, true, false, false] rfl rfl (by kernel_rfl) (by decide) (fun K hK => ?_)
  refine Kd.R_append_rows_step k45 (Rr := k45.M w3 base (fun k => W.heap.size ≤ k)) (w0 := w3) base (by rfl) (.tmp 48) (.tmp 50) 35 45 (.agg #[.string ⟨#[]⟩, .int .i64 0, .int .i64 0, .string ⟨#[]⟩, .slice none 0 0, .slice none 0 0]) 96 rfl Try.underlying35 info45 rfl (by decide) (by decide) vp (b.logs.getD p []) x Au x.length cu (fun k => own2 k = 6 + p ∨ w2.heap.size ≤ k) (fun k => W.heap.size ≤ k) rfl rfl ?hO ?hR (fun _ _ hp => hp) ?hok ?hfr (Below.refl _ _) ?hS ?hl ?_
  case hO => exact Kd.R_below (Kd.R_below (Kd.R_mono HRp.out (fun _ hk => .inl hk)) HBo.out) hb3.out
  case hR => exact R_readsM hu.out (Nat.le_trans Hbase.out HBo.out.size)
  case hok => exact fun k hk => ⟨.inr (Nat.le_trans HBo.out.size hk), fun he => by have := Kd.R_lt HRp.out k he.symm; have := HBo.out.size; omega⟩
  case hfr => exact fun k hk => .inr (Nat.le_trans HBo.out.size (Nat.le_trans hb3.out.size hk))
  case hS => exact Nat.le_trans Hbase.out (Nat.le_trans HBo.out.size hb3.out.size)
  case hl => have := Hll.out; omega
  intro v1 w4 hO4 hB4 hg4 hat4
  have HA := Lib.hid (H2.out.appended Hbase.out p hp (HBo.out.trans (hb3.out.mono HBo.out.size)) Hvp.out hg4 hO4)
  obtain ⟨A1, m1, c1, rfl⟩ := R_sliced hO4
  clear hO4 hB4 hg4 hat4
  refine hK.out _ _ ⟨HA.out.c4, HA.out.cl.trans (congrArg some Hvp.out)⟩ (fun hHeld => ?_)
  clear hK K
  refine norm_ (a' := ?_) ?_ ?_
  rotate_left
  · show Act.put _ (some 51) _ = _
    simp only [Act.put, List.setIfInBounds_toArray, List.set_cons_zero, List.set_cons_succ]
    rfl
  refine pure_ (i := 17) (N := some 52) (v := ?_) (a' := ?_) #[true, true, true, true, true, true, true, true, true, true, true, true, true, true, true, true, true, true, false] rfl rfl (by kernel_rfl) (fun _ _ _ h => h) (Or.inl ⟨by rfl, ?_⟩) ?_ ?_
  rotate_left
  · intro w'
    go_simp
    with_reducible rfl
  rotate_left
  · simp only [Act.put, List.setIfInBounds_toArray, List.set_cons_zero, List.set_cons_succ]
    rfl
  refine last_ (i := 18) (N := none) #[true, true, true, true, true, true, true, true, true, true, true, true, true, true, true, true, true, true, true] rfl rfl (by kernel_rfl) (by decide) (fun K hK => ?_)
  have hs := hHeld.2
  have hf := HA.out.fl
  refine skip_ (w1 := ?_) (by rfl) rfl ?_ ?_
  rotate_left
  · go_simp
    rfl
  refine hK.out _ _ ?_
  clear hK K hs hf
  refine done_ (by kernel_rfl) ?_
  have H4 : Hid (BkAt _ base _ g ((b.taken s y).logged p x) gp2 gl2 vc2 vd2 _) := HA.out.bk
  have U4 := Lib.hid (U2.out.trans HA.out.upd)
  clear hHeld
  generalize tagged own2 w2.heap.size w4.heap.size (6 + p) = own4 at H4 U4
  generalize (w4.setCell ⟨gl2, p, none⟩ (.slice A1 m1 c1)) = w5 at H4 U4 ⊢
  obtain ⟨k1', k2', k3'⟩ := H4.out.lts
  have c0 : w5.cell? ⟨g, 0, none⟩ = some (.int .i64 3) := by rw [← Hm.out]; exact H4.out.facts.1
  have c1 : w5.cell? ⟨g, 1, none⟩ = some (.int .i64 b.back) := H4.out.facts.2.1
  have c3 : w5.cell? ⟨g, 3, none⟩ = some (.slice (some ⟨gp2, 0, none⟩) b.ports.length b.ports.length) := H4.out.facts.2.2.2.1
  have c4 : w5.cell? ⟨g, 4, none⟩ = some (.slice (some ⟨gl2, 0, none⟩) b.ports.length b.ports.length) := H4.out.facts.2.2.2.2.1
  have c5 : w5.cell? ⟨g, 5, none⟩ = some (.bool true) := H4.out.facts.2.2.2.2.2.1
  have cp5 : w5.cell? ⟨gp2, p, none⟩ = some (.int .i64 (b.ports.getD p 0)) := H4.out.port p hp
  have fp5 : w5.frozen? ⟨gp2, p, none⟩ = false := blk_frozen H4.out.hp p
  generalize b.ports.getD p 0 = q5 at cp5
  go_wp2
  go_ret
  exact ⟨rfl, own4, ⟨_, _, _, _, _, H4.out.portd p hp⟩, U4.out.setb (t := 1) (p := ⟨gp2, p, none⟩) H4.out.op⟩
set_option maxRecDepth 100000 in
set_option maxHeartbeats 4000000 in
theorem close42_F1true (h : BkAt w base own g b gp gl vc vd lv) (hbase : base ≤ w.heap.size) (p : Nat) (hp : p < b.ports.length) (x : List S45) (Ax : Option Addr) (cx : Nat) (hx : Away k45 own w Ax x) (hcx : x.length ≤ cx) (hpx : partsRs x ≤ 100000) (s : S34) (As : Option Addr) (cs : Nat) (hs : Away k104 own w As s.f1) (hcs : s.f1.length ≤ cs) (hps : partsC s.f1 ≤ 100000) (y : List S45) (Ay : Option Addr) (cy : Nat) (hy : Away k45 own w Ay y) (hcy : y.length ≤ cy) (hpy : partsRs y ≤ 100000) (m : b.mode = 1) (hc : b.copied = false) (hsh : (b.shutP p).shutB b.back = true) :
    Calls Try.prog 42 #[.pointer (some ⟨g, 0, none⟩), .int .i64 p, .slice Ax x.length cx, .agg #[.int .i64 s.f0, .slice As s.f1.length cs], .slice Ay y.length cy] w fun e w' => e = .returned (.bool true) ∧ BkPost base own g ((b.shutP p).taken s y) w w' := by
  have H := Lib.hid h
  have Hbase := Lib.hid hbase
  have Hm := Lib.hid m
  obtain ⟨l1, l2, l3⟩ := h.lts
  have n1 := h.ne_gp
  have n2 := h.ne_gl
  have n3 := h.ne_pl
  have n4 := h.ne_gp.symm
  have n5 := h.ne_pl.symm
  have Hs := Lib.hid hs
  have Hcs := Lib.hid hcs
  have Hps := Lib.hid hps
  have Hy := Lib.hid hy
  have Hcy := Lib.hid hcy
  have Hpy := Lib.hid hpy
  have H1 : Hid (BkAt ((w.setCell ⟨gp, p, none⟩ (.int .i64 1)).alloc (.cells #[.int .i64 s.f0, .slice As s.f1.length cs] 34)) base own g (b.shutP p) gp gl vc vd lv) := (h.portd p hp).below ((Below.refl _ _).alloc (Nat.le_refl _) _)
  have U1 : Hid (Upd own w own ((w.setCell ⟨gp, p, none⟩ (.int .i64 1)).alloc (.cells #[.int .i64 s.f0, .slice As s.f1.length cs] 34))) := (Upd.setb (t := 1) (p := ⟨gp, p, none⟩) (Upd.refl own w) h.op).trans (Upd.of_below ((Below.refl _ _).alloc (Nat.le_refl _) _) (fun _ _ => rfl))
  have HS := Lib.hid (shut45 H1.out b.back)
  rw [hsh] at HS
  have c0 : w.cell? ⟨g, 0, none⟩ = some (.int .i64 1) := by rw [← Hm.out]; exact h.facts.1
  have c1 : w.cell? ⟨g, 1, none⟩ = some (.int .i64 b.back) := h.facts.2.1
  have c3 : w.cell? ⟨g, 3, none⟩ = some (.slice (some ⟨gp, 0, none⟩) b.ports.length b.ports.length) := h.facts.2.2.2.1
  have c4 : w.cell? ⟨g, 4, none⟩ = some (.slice (some ⟨gl, 0, none⟩) b.ports.length b.ports.length) := h.facts.2.2.2.2.1
  have c5 : w.cell? ⟨g, 5, none⟩ = some (.bool b.copied) := h.facts.2.2.2.2.2.1
  rw [hc] at c5
  have Hc := Lib.hid hc
  have cp := h.port p hp
  have fp : w.frozen? ⟨gp, p, none⟩ = false := blk_frozen h.hp p
  generalize b.ports.getD p 0 = q0 at cp
  clear h hbase m hs hcs hps hx hcx hpx hy hcy hpy hc hsh
  go_enter Try.func42, Try.ntmps42
  go_wp2_with (first
    | (go_at_call 45; refine HS.out.mono ?_; rintro e w' ⟨rfl, rfl⟩)
    | (go_at_call 57; refine (take57 H1.out (Nat.le_trans Hbase.out U1.out.size) s As cs ((Hs.out.upd U1.out).now) Hcs.out Hps.out y Ay cy ((Hy.out.upd U1.out).now) Hcy.out Hpy.out).mono ?_; rintro e w2 ⟨rfl, own2, ⟨gp2, gl2, vc2, vd2, lv2, h2⟩, u2⟩
       have H2 : Hid (BkAt w2 base own2 g ((b.shutP p).taken s y) gp2 gl2 vc2 vd2 lv2) := h2
       have U2 := Lib.hid (U1.out.trans u2)
       have c52 : w2.cell? ⟨g, 5, none⟩ = some (.bool true) := h2.facts.2.2.2.2.2.1
       clear h2 u2))
  go_ret
  exact ⟨rfl, own2, ⟨_, _, _, _, _, H2.out⟩, U2.out⟩
set_option maxRecDepth 100000 in
set_option maxHeartbeats 4000000 in
theorem close42_F1false (h : BkAt w base own g b gp gl vc vd lv) (hbase : base ≤ w.heap.size) (p : Nat) (hp : p < b.ports.length) (x : List S45) (Ax : Option Addr) (cx : Nat) (hx : Away k45 own w Ax x) (hcx : x.length ≤ cx) (hpx : partsRs x ≤ 100000) (s : S34) (As : Option Addr) (cs : Nat) (hs : Away k104 own w As s.f1) (hcs : s.f1.length ≤ cs) (hps : partsC s.f1 ≤ 100000) (y : List S45) (Ay : Option Addr) (cy : Nat) (hy : Away k45 own w Ay y) (hcy : y.length ≤ cy) (hpy : partsRs y ≤ 100000) (m : b.mode = 1) (hc : b.copied = false) (hsh : (b.shutP p).shutB b.back = false) :
    Calls Try.prog 42 #[.pointer (some ⟨g, 0, none⟩), .int .i64 p, .slice Ax x.length cx, .agg #[.int .i64 s.f0, .slice As s.f1.length cs], .slice Ay y.length cy] w fun e w' => e = .returned (.bool false) ∧ BkPost base own g (b.shutP p) w w' := by
  have H := Lib.hid h
  have Hbase := Lib.hid hbase
  have Hm := Lib.hid m
  obtain ⟨l1, l2, l3⟩ := h.lts
  have n1 := h.ne_gp
  have n2 := h.ne_gl
  have n3 := h.ne_pl
  have n4 := h.ne_gp.symm
  have n5 := h.ne_pl.symm
  have Hs := Lib.hid hs
  have Hcs := Lib.hid hcs
  have Hps := Lib.hid hps
  have Hy := Lib.hid hy
  have Hcy := Lib.hid hcy
  have Hpy := Lib.hid hpy
  have H1 : Hid (BkAt ((w.setCell ⟨gp, p, none⟩ (.int .i64 1)).alloc (.cells #[.int .i64 s.f0, .slice As s.f1.length cs] 34)) base own g (b.shutP p) gp gl vc vd lv) := (h.portd p hp).below ((Below.refl _ _).alloc (Nat.le_refl _) _)
  have U1 : Hid (Upd own w own ((w.setCell ⟨gp, p, none⟩ (.int .i64 1)).alloc (.cells #[.int .i64 s.f0, .slice As s.f1.length cs] 34))) := (Upd.setb (t := 1) (p := ⟨gp, p, none⟩) (Upd.refl own w) h.op).trans (Upd.of_below ((Below.refl _ _).alloc (Nat.le_refl _) _) (fun _ _ => rfl))
  have HS := Lib.hid (shut45 H1.out b.back)
  rw [hsh] at HS
  have c0 : w.cell? ⟨g, 0, none⟩ = some (.int .i64 1) := by rw [← Hm.out]; exact h.facts.1
  have c1 : w.cell? ⟨g, 1, none⟩ = some (.int .i64 b.back) := h.facts.2.1
  have c3 : w.cell? ⟨g, 3, none⟩ = some (.slice (some ⟨gp, 0, none⟩) b.ports.length b.ports.length) := h.facts.2.2.2.1
  have c4 : w.cell? ⟨g, 4, none⟩ = some (.slice (some ⟨gl, 0, none⟩) b.ports.length b.ports.length) := h.facts.2.2.2.2.1
  have c5 : w.cell? ⟨g, 5, none⟩ = some (.bool b.copied) := h.facts.2.2.2.2.2.1
  rw [hc] at c5
  have Hc := Lib.hid hc
  have cp := h.port p hp
  have fp : w.frozen? ⟨gp, p, none⟩ = false := blk_frozen h.hp p
  generalize b.ports.getD p 0 = q0 at cp
  clear h hbase m hs hcs hps hx hcx hpx hy hcy hpy hc hsh
  go_enter Try.func42, Try.ntmps42
  go_wp2_with (first
    | (go_at_call 45; refine HS.out.mono ?_; rintro e w' ⟨rfl, rfl⟩)
)
  go_ret
  exact ⟨rfl, own, ⟨_, _, _, _, _, H1.out⟩, U1.out⟩
theorem close42 (h : BkAt w base own g b gp gl vc vd lv) (hbase : base ≤ w.heap.size) (p : Nat) (hp : p < b.ports.length) (x : List S45) (Ax : Option Addr) (cx : Nat) (hx : Away k45 own w Ax x) (hcx : x.length ≤ cx) (hpx : partsRs x ≤ 100000) (s : S34) (As : Option Addr) (cs : Nat) (hs : Away k104 own w As s.f1) (hcs : s.f1.length ≤ cs) (hps : partsC s.f1 ≤ 100000) (y : List S45) (Ay : Option Addr) (cy : Nat) (hy : Away k45 own w Ay y) (hcy : y.length ≤ cy) (hpy : partsRs y ≤ 100000) (hll : (b.logs.getD p []).length + x.length ≤ 1000000000000) (hm : b.mode = 1 ∨ b.mode = 2 ∨ b.mode = 3) :
    Calls Try.prog 42 #[.pointer (some ⟨g, 0, none⟩), .int .i64 p, .slice Ax x.length cx, .agg #[.int .i64 s.f0, .slice As s.f1.length cs], .slice Ay y.length cy] w fun e w' => e = .returned (.bool ((b.close p x s y).copied && !b.copied)) ∧ BkPost base own g (b.close p x s y) w w' := by
  rcases hc : b.copied with _ | _
  · rcases hm with m | m | m
    · rcases hsh : (b.shutP p).shutB b.back with _ | _
      · have e : b.close p x s y = b.shutP p := by unfold Bk.close; simp [m, hc, hsh]
        have e2 : (b.shutP p).copied = false := hc
        rw [e, e2]
        exact close42_F1false h hbase p hp x Ax cx hx hcx hpx s As cs hs hcs hps y Ay cy hy hcy hpy m hc hsh
      · have e : b.close p x s y = (b.shutP p).taken s y := by unfold Bk.close; simp [m, hc, hsh]
        have e2 : ((b.shutP p).taken s y).copied = true := rfl
        rw [e, e2]
        exact close42_F1true h hbase p hp x Ax cx hx hcx hpx s As cs hs hcs hps y Ay cy hy hcy hpy m hc hsh
    · have e : b.close p x s y = (b.taken s y).shutP p := by unfold Bk.close; simp [m, hc]
      have e2 : ((b.taken s y).shutP p).copied = true := rfl
      rw [e, e2]
      exact close42_F2 h hbase p hp x Ax cx hx hcx hpx s As cs hs hcs hps y Ay cy hy hcy hpy m hc
    · have e : b.close p x s y = ((b.taken s y).logged p x).shutP p := by unfold Bk.close; simp [m, hc]
      have e2 : (((b.taken s y).logged p x).shutP p).copied = true := rfl
      rw [e, e2]
      exact close42_F3 h hbase p hp x Ax cx hx hcx hpx s As cs hs hcs hps y Ay cy hy hcy hpy hll m hc
  · rcases hm with m | m | m
    · have e : b.close p x s y = b.shutP p := by unfold Bk.close; simp [m, hc]
      have e2 : (b.shutP p).copied = true := hc
      rw [e, e2]
      exact close42_T1 h hbase p hp x Ax cx hx hcx hpx s As cs hs hcs hps y Ay cy hy hcy hpy m hc
    · have e : b.close p x s y = b.shutP p := by unfold Bk.close; simp [m, hc]
      have e2 : (b.shutP p).copied = true := hc
      rw [e, e2]
      exact close42_T2 h hbase p hp x Ax cx hx hcx hpx s As cs hs hcs hps y Ay cy hy hcy hpy m hc
    · have e : b.close p x s y = (b.logged p x).shutP p := by unfold Bk.close; simp [m, hc]
      have e2 : ((b.logged p x).shutP p).copied = true := hc
      rw [e, e2]
      exact close42_T3 h hbase p hp x Ax cx hx hcx hpx s As cs hs hcs hps y Ay cy hy hcy hpy hll m hc
end
end Go.Proofs.Ytomfknblehkocaa.C
