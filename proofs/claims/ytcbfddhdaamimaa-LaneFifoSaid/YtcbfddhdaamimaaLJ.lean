/- Pull. -/
import Derived.Test.YtcbfddhdaamimaaLI
namespace Go.Proofs.Ytcbfddhdaamimaa.PLaneFifo
open Go.RowKit Go.Conc Go.Proofs.YtcbfddhdaamimaaW.PrintWords Go.Proofs.YtcbfddhdaamimaaW.PrintLast
set_option linter.unusedVariables false
set_option linter.unusedSimpArgs false

theorem cut3 (A : Option Addr) (n c i : Nat) (hi : i ≤ c) : ∀ W : World, (Instr.slice 22 (.slice A n c) none (some (.int .i64 (i : Int))) (some (.int .i64 (i : Int)))).run Try.prog W = .ok (.slice A i i) W := by
  intro W
  obtain ⟨i0, hi0, -, hz1, -⟩ := info_parts info35
  have hel : Try.prog.elem 22 = 35 := by simp [Program.elem, Try.underlying22]
  have hu : Try.prog.underlying 22 = some (.slice (Try.prog.elem 22)) := by rw [hel]; exact Try.underlying22
  have ha : (A.map fun x => x.add 0) = A := by cases A <;> simp [Addr.add]
  rw [run_slice_hm W 22 A n c hu .i64 .i64 (i : Int) (i : Int) (by omega) (by omega) (by omega), hel]
  simp [sizeOf, typeInfo, hi0, sliced, Result.andThen, ha]
theorem cutf (A : Option Addr) (n c i : Nat) (hi : i + 1 ≤ n) : ∀ W : World, (Instr.slice 22 (.slice A n c) (some (.int .i64 ((i : Int) + 1))) none none).run Try.prog W = .ok (.slice (if c = i + 1 then A else A.map (·.add ((i + 1) * 7))) (n - (i + 1)) (c - (i + 1))) W := by
  intro W
  obtain ⟨i0, hi0, -, hz1, -⟩ := info_parts info35
  have := cut_from (P := Try.prog) 22 35 .i64 Try.underlying22 hi0 7 hz1 A n c ((i + 1 : Nat) : Int) (by omega) (by omega) W
  rw [Int.toNat_natCast] at this
  exact this
theorem field35 (a b c d e f g : Value) (W : World) : (Instr.field 35 (.agg #[a, b, c, d, e, f, g]) 1).run Try.prog W = .ok (.agg #[b, c, d, e, f, g]) W := by kernel_rfl
theorem run_app {o : Oper} {a : Act} {w w1 : World} {v vs vx : Value} {s x : Operand} {t : TypeId} (ho : o.op = .call { callee := .builtin .append, args := #[s, x], argTypes := #[t, t] }) (hs : a.eval s = vs) (hx : a.eval x = vx) (hrun : (Builtin.append_ #[t, t] o.type #[vs, vx]).run Try.prog w = .ok v w1) : (execOp a.eval o).run Try.prog w = .ok (.value v) w1 := by
  unfold execOp
  simp only [ho, resolve, invoke, builtin, Sem.run_bind, Sem.run_pure, Result.andThen_ok, List.map_toArray, List.map_cons, List.map_nil, hs, hx, hrun]
theorem grows_any {W : World} (e : TypeId) (i : TypeInfo) (z : Value) (size bytes : Nat) (ht : Try.prog.underlying 22 = some (.slice e)) (hi : Try.prog.info? e = some i) (hz : i.zero = some z)
    (hsize : i.size = size) (hby : i.bytes = bytes) (hzs : z.cells.size = size) (hsz : 0 < size)
    (b : Addr) (n cap : Nat) (olds : List Value) (hlo : olds.length = n * size) (holds : ∀ j u, olds[j]? = some u → W.cell? (b.add j) = some u)
    (a : Addr) (m c : Nat) (news : List Value) (hl : news.length = m * size) (hnews : ∀ j u, news[j]? = some u → W.cell? (a.add j) = some u)
    (hg : cap < n + m) (h63 : n + m ≤ maxLen) (hbytes : (n + m) * bytes ≤ 140737488355328) :
    ∃ v' w', (∀ ty, (Builtin.append_ #[22, 22] ty #[.slice (some b) n cap, .slice (some a) m c]).run Try.prog W = .ok v' w') ∧ w'.ownsRow W.heap.size e size v' (n + m) (olds ++ news) ∧ W.grownBy w' none := by
  obtain ⟨v', w', h1, h2, h3⟩ := run_append_arg_grows (P := Try.prog) (w := W) 22 0 e i z size bytes ht hi hz hsize hby hzs hsz b n cap olds hlo holds a m c news hl hnews hg h63 hbytes
  exact ⟨v', w', fun ty => h1, h2, h3⟩
theorem pull_append (own own0 : Nat → Nat) (W0 W : World) (A : Option Addr) (cc : Nat) (l : List Pr) (HS : StC (pk k35 own0 W0) own W A l.length l) (hcc : l.length ≤ cc) (i : Nat) (hi : i < l.length) (hl : l.length ≤ 900000) (hnew : ∀ k, W.heap.size ≤ k → own k = 0) :
    ∃ A1 c1 w1, (∀ ty, (Builtin.append_ #[22, 22] ty #[.slice A i i, .slice (if cc = i + 1 then A else A.map (·.add ((i + 1) * 7))) (l.length - (i + 1)) (cc - (i + 1))]).run Try.prog W = .ok (.slice A1 (l.length - 1) c1) w1) ∧ Below W.heap.size W w1 ∧ StC (pk k35 own0 W0) own w1 A1 (l.length - 1) (l.take i ++ l.drop (i + 1)) := by
  obtain ⟨i0, hi0, hz0, hz1, hz2⟩ := info_parts info35
  obtain ⟨b, hA, -⟩ := HS.now.2.2 (by omega)
  subst hA
  have htl : (l.take i).length = i := by rw [List.length_take]; omega
  have hdl : (l.drop (i + 1)).length = l.length - (i + 1) := List.length_drop
  rcases Nat.lt_or_ge (i + 1) l.length with hm | hm
  · have hne : cc ≠ i + 1 := by omega
    rw [if_neg hne]
    have h1 := Kd.C_take HS.now (m := i) (by omega)
    have h2 := Kd.C_drop HS.now (m := i + 1) (by omega) hcc
    rw [if_neg hne] at h2
    obtain ⟨olds, hr1, hc1⟩ := ReadsRow.inner_ h1
    obtain ⟨news, hr2, hc2⟩ := ReadsRow.inner_ h2
    have hk : (pk k35 own0 W0).sz = 7 := rfl
    obtain ⟨v', w', hrun, how, hg⟩ := grows_any 35 i0 _ 7 104 Try.underlying22 hi0 hz0 hz1 hz2 rfl (by decide) b i i olds (by rw [hr1.1, htl]; rfl) hc1 (b.add ((i + 1) * 7)) (l.length - (i + 1)) (cc - (i + 1)) news (by rw [hr2.1, hdl]; rfl) hc2 (by omega) (by simp only [maxLen]; omega) (by omega)
    have hlen : (l.take i ++ l.drop (i + 1)).length = i + (l.length - (i + 1)) := by rw [List.length_append, htl, hdl]
    have hR : (pk k35 own0 W0).R 35 w' W.heap.size (fun _ => True) v' (l.take i ++ l.drop (i + 1)) := ⟨fun _ _ => trivial, olds ++ news, by rw [hlen]; exact how, Kd.reps_append hr1 hr2⟩
    obtain ⟨A1, c1, hv⟩ := Kd.R_slice hR
    have hl1 : (l.take i ++ l.drop (i + 1)).length = l.length - 1 := by rw [hlen]; omega
    rw [hl1] at hv
    subst hv
    exact ⟨A1, c1, w', hrun, ⟨hg.os, hg.tape, hg.output, hg.size, fun k hk => hg.block k hk (by simp)⟩, StC.newly hR hnew⟩
  · have hm' : l.length = i + 1 := by omega
    refine ⟨some b, i, W, fun ty => ?_, Below.refl _ _, ?_⟩
    · rw [hm', Nat.sub_self, Nat.add_sub_cancel]
      by_cases hq : cc = i + 1
      · rw [if_pos hq]
        simp [Builtin.append_, run_underlying Try.underlying22, sizeOf, typeInfo, hi0, Builtin.lenOf, Builtin.firstCells, storeCells, loadCells, loadCellsFrom]
      · rw [if_neg hq]
        simp [Builtin.append_, run_underlying Try.underlying22, sizeOf, typeInfo, hi0, Builtin.lenOf, Builtin.firstCells, storeCells, loadCells, loadCellsFrom]
    · rw [List.drop_of_length_le (by omega), List.append_nil]
      intro S o2 w2 hS hu
      have := Kd.C_take (HS S o2 w2 hS hu) (m := i) (by omega)
      rw [htl] at this
      rw [hm', Nat.add_sub_cancel]
      exact this
def PullAns (own : Nat → Nat) (w : World) (g : Nat) (rm : Int) (l : List Pr) (e : Ending) (w' : World) : Prop :=
  ((∀ p ∈ l, ¬ 0 < p.1.f0) ∧ e = .returned (.tuple #[.int .i64 0, .slice none 0 0]) ∧ LaneTo own w g rm false l w') ∨
  (∃ a y b l2 A cc own' c cap s r, l.map (·.1) = a ++ y :: b ∧ (∀ x ∈ a, ¬ 0 < x.f0) ∧ 0 < y.f0 ∧ l2.map (·.1) = a ++ b ∧ e = .returned (.tuple #[.int .i64 y.f0, .slice A a.length cc]) ∧ a.length ≤ cc ∧
    LaneAt own' w' g rm false l2 c cap s r ∧ Upd (· = 1) own w own' w' ∧ StC k33 own' w' A a.length (a.map (·.f1)))
set_option maxRecDepth 100000 in
set_option maxHeartbeats 8000000 in
theorem pull10 (own : Nat → Nat) (w : World) (g c cap s r : Nat) (rm : Int) (l : List Pr) (h : LaneAt own w g rm false l c cap s r) (hl : l.length ≤ 800000) (hp : ∀ p ∈ l, partsR p.1.f1 ≤ 100000) (hcop : ∀ p ∈ l, cop p.1 = p.1) :
    Calls Try.prog 10 #[.pointer (some ⟨g, 0, none⟩)] w fun e w' => PullAns own w g rm l e w' := by
  have HLI := Lib.hid (list15 own w g c cap s r rm l h (by omega) hp)
  obtain ⟨n, hn⟩ : ∃ n, n = l.length := ⟨_, rfl⟩
  have Hn := Lib.hid hn
  have hn9 : n ≤ 900000 := by omega
  have HP := Lib.hid hp
  have Hcop := Lib.hid hcop
  clear h hl hp hcop hn
  go_enter Try.func10, Try.ntmps10
  go_wp2_with (go_at_call 15; refine HLI.out.mono ?_; rintro e w1 ⟨own1, c1, cap1, s1, r1, A, cc, l2, rfl, hl2, HL, HU, HR⟩)
  have h12 : l2.map (·.1) = l.map (·.1) := hl2.trans (List.map_congr_left (fun p hp => Hcop.out p hp))
  have Hl2 : Hid (l2.length = n) := Lib.hid (by have := congrArg List.length h12; rw [List.length_map, List.length_map] at this; rw [this, Hn.out])
  have H12 := Lib.hid h12
  have HSC : Hid (StC (pk k35 own1 w1) own1 w1 A n l2) := Lib.hid (by have := HR.out; rw [← Hn.out] at this; exact StC.made this)
  have Hcc : Hid (n ≤ cc) := Lib.hid (by rw [Hn.out]; exact (Kd.R_reads' HR.out).2.1)
  rw [← Hn.out]
  clear hl2 h12 HLI HR
  go_loopw [5, 12] (fun v5 v12 wr => ∃ k, k ≤ n ∧ v12 = .int .i64 (k : Nat) ∧ Hid (Kd.R k33 33 wr w1.heap.size (fun _ => True) v5 ((l2.take k).map fun p => p.1.f1)) ∧ Hid (Below w1.heap.size w1 wr) ∧ Hid (∀ p ∈ l2.take k, ¬ 0 < p.1.f0)) (fun _ v12 _ => n - (intOf v12).toNat)
  case atStart => exact ⟨0, Nat.zero_le _, rfl, Kd.R_nil _ _ _ _ _, Below.refl _ _, Lib.hid (fun p hp => by simp at hp)⟩
  case round =>
    obtain ⟨k, hk, rfl, HO, HB, HM⟩ := hrel
    have hkl : ((l2.take k).map fun p => p.1.f1).length = k := by rw [List.length_map, List.length_take, Hl2.out]; omega
    obtain ⟨Au, cu, hv⟩ := Kd.R_slice HO.out
    rw [hkl] at hv
    subst hv
    have Hkl := Lib.hid hkl
    clear hkl
    by_cases hlt : k < n
    · obtain ⟨ad, y, B5, d5, B6, d6, rfl, hy, hsy, a0, a1, a2, a3, a4, a5, a6⟩ := at_pk (Kd.C_below HSC.out.now HB.out) k (by rw [Hl2.out]; exact hlt)
      have Hy := Lib.hid hy
      have Hsy := Lib.hid hsy
      clear hy hsy
      have HE := Lib.hid (blk_new wr (.cells #[.int .i64 y.f0, .string y.f1.f0, .int .i64 y.f1.f1.f0, .int .i64 y.f1.f1.f1, .string y.f1.f1.f2, .slice B5 y.f1.f1.f3.length d5, .slice B6 y.f1.f2.length d6] 35))
      have HBb : Hid (Below w1.heap.size w1 (wr.alloc (.cells #[.int .i64 y.f0, .string y.f1.f0, .int .i64 y.f1.f1.f0, .int .i64 y.f1.f1.f1, .string y.f1.f1.f2, .slice B5 y.f1.f1.f3.length d5, .slice B6 y.f1.f2.length d6] 35))) := Lib.hid (HB.out.alloc HB.out.size _)
      have HBrb : Hid (Below wr.heap.size wr (wr.alloc (.cells #[.int .i64 y.f0, .string y.f1.f0, .int .i64 y.f1.f1.f0, .int .i64 y.f1.f1.f1, .string y.f1.f1.f2, .slice B5 y.f1.f1.f3.length d5, .slice B6 y.f1.f2.length d6] 35))) := Lib.hid ((Below.refl _ _).alloc (Nat.le_refl _) _)
      have HOb := Lib.hid (Kd.R_alloc HO.out (.cells #[.int .i64 y.f0, .string y.f1.f0, .int .i64 y.f1.f1.f0, .int .i64 y.f1.f1.f1, .string y.f1.f1.f2, .slice B5 y.f1.f1.f3.length d5, .slice B6 y.f1.f2.length d6] 35))
      go_upto_region 6 with (fail)
      clear a0 a1 a2 a3 a4 a5 a6
      generalize wr.alloc (.cells #[.int .i64 y.f0, .string y.f1.f0, .int .i64 y.f1.f1.f0, .int .i64 y.f1.f1.f1, .string y.f1.f1.f2, .slice B5 y.f1.f1.f3.length d5, .slice B6 y.f1.f2.length d6] 35) = wb at *
      have e0 : wb.cell? ⟨wr.heap.size, 0, none⟩ = some (.int .i64 y.f0) := blk_at HE.out 0 rfl
      have e1 : wb.cell? ⟨wr.heap.size, 1, none⟩ = some (.string y.f1.f0) := blk_at HE.out 1 rfl
      have e2 : wb.cell? ⟨wr.heap.size, 2, none⟩ = some (.int .i64 y.f1.f1.f0) := blk_at HE.out 2 rfl
      have e3 : wb.cell? ⟨wr.heap.size, 3, none⟩ = some (.int .i64 y.f1.f1.f1) := blk_at HE.out 3 rfl
      have e4 : wb.cell? ⟨wr.heap.size, 4, none⟩ = some (.string y.f1.f1.f2) := blk_at HE.out 4 rfl
      have e5 : wb.cell? ⟨wr.heap.size, 5, none⟩ = some (.slice B5 y.f1.f1.f3.length d5) := blk_at HE.out 5 rfl
      have e6 : wb.cell? ⟨wr.heap.size, 6, none⟩ = some (.slice B6 y.f1.f2.length d6) := blk_at HE.out 6 rfl
      by_cases hmk : 0 < y.f0
      · have k1 : decide (0 < y.f0) = true := decide_eq_true hmk
        have Hmk := Lib.hid hmk
        clear hmk
        obtain ⟨o2, ho2⟩ : ∃ o2 : Nat → Nat, o2 = fresh own1 w1 0 := ⟨_, rfl⟩
        obtain ⟨n1, hn1⟩ : ∃ n1, n - 1 = n1 := ⟨_, rfl⟩
        have hlen3 : (l2.take k ++ l2.drop (k + 1)).length = n1 := by rw [List.length_append, List.length_take, List.length_drop, Hl2.out]; omega
        obtain ⟨As, hAs⟩ : ∃ As, (if cc = k + 1 then some ad else (some ad).map (·.add ((k + 1) * 7))) = As := ⟨_, rfl⟩
        obtain ⟨ms, hms⟩ : ∃ ms, n - (k + 1) = ms := ⟨_, rfl⟩
        obtain ⟨cs, hcs⟩ : ∃ cs, cc - (k + 1) = cs := ⟨_, rfl⟩
        have hcut1 := cut3 (some ad) n cc k (by have := Hcc.out; omega)
        have hcut2 := cutf (some ad) n cc k (by omega)
        rw [hAs, hms, hcs] at hcut2
        have hwk : IntKind.i64.wrap ((k : Int) + 1) = (k : Int) + 1 := by rw [i64_w]; unfold wrap64; omega
        go_upto_region 7 with (fail)
        refine start_ (n := 11) (S := (fun _ => True)) (ds := []) #[false, false, false, false, false, false, false, false, false, false, false] (by kernel_rfl) rfl rfl trivial (fun hHeld => ?_)
        have hBd : Hid (Below w1.heap.size w1 wb.drew) := Lib.hid HBb.out.drew
        have hBr : Hid (Below wr.heap.size wr wb.drew) := Lib.hid HBrb.out.drew
        have hE : Hid (wb.drew.heap[wr.heap.size]? = some (.cells #[.int .i64 y.f0, .string y.f1.f0, .int .i64 y.f1.f1.f0, .int .i64 y.f1.f1.f1, .string y.f1.f1.f2, .slice B5 y.f1.f1.f3.length d5, .slice B6 y.f1.f2.length d6] 35 (0, 0))) := HE
        generalize wb.drew = W at hHeld hBd hBr hE ⊢
        have HS := Lib.hid (HSC.out.upd (S := fun _ => False) (own' := o2) (by decide) (Upd.of_below' hBd.out (fun i hi => by rw [ho2]; exact fresh_old hi)))
        obtain ⟨A1, c1, w2, hap, hb2, hs2⟩ := pull_append o2 own1 w1 W (some ad) cc l2 (by rw [Hl2.out]; exact HS.out) (by rw [Hl2.out]; exact Hcc.out) k (by rw [Hl2.out]; exact hlt) (by rw [Hl2.out]; exact hn9) (fun i hi => by rw [ho2]; exact fresh_new (Nat.le_trans hBd.out.size hi))
        rw [Hl2.out, hAs, hms, hcs, hn1] at hap
        rw [Hl2.out, hn1] at hs2
        have hBw : Below w1.heap.size w1 w2 := hBd.out.trans (hb2.mono hBd.out.size)
        have huw : Upd (fun _ => False) own1 w1 o2 w2 := Upd.of_below' hBw (fun i hi => by rw [ho2]; exact fresh_old hi)
        have HLw := Lib.hid (HL.out.upd (by decide) (by decide) huw)
        have hf := fill28 o2 w2 g _ _ rm HLw.out.hb HLw.out.og (l2.take k ++ l2.drop (k + 1)) A1 c1 (by rw [hlen3]; exact StC_re hs2 (S := fun _ => False) (by decide) huw) (by rw [hlen3]; omega)
        rw [hlen3] at hf
        have HF := Lib.hid hf
        have HUw := Lib.hid huw
        have Hb2 := Lib.hid hb2
        clear hf hs2 hb2 huw hBw HS
        refine pure_ (i := 0) (N := some 20) (v := ?_) (a' := ?_) #[true, false, false, false, false, false, false, false, false, false, false] rfl rfl (by kernel_rfl) (fun _ _ _ h => h) (Or.inl ⟨by rfl, ?_⟩) ?_ ?_
        rotate_left
        · intro w'
          go_simp
          with_reducible rfl
        rotate_left
        · simp only [Act.put, List.setIfInBounds_toArray, List.set_cons_zero, List.set_cons_succ]
          rfl
        refine pure_ (i := 1) (N := some 21) (v := ?_) (a' := ?_) #[true, true, false, false, false, false, false, false, false, false, false] rfl rfl (by kernel_rfl) (fun _ _ _ h => h) (Or.inl ⟨by rfl, ?_⟩) ?_ ?_
        rotate_left
        · intro w'
          go_simp
          with_reducible rfl
        rotate_left
        · simp only [Act.put, List.setIfInBounds_toArray, List.set_cons_zero, List.set_cons_succ]
          rfl
        refine pure_ (i := 2) (N := some 22) (v := ?_) (a' := ?_) #[true, true, true, false, false, false, false, false, false, false, false] rfl rfl (by kernel_rfl) (fun _ _ _ h => h) (Or.inl ⟨by rfl, ?_⟩) ?_ ?_
        rotate_left
        · intro w'
          go_simp
          with_reducible rfl
        rotate_left
        · simp only [Act.put, List.setIfInBounds_toArray, List.set_cons_zero, List.set_cons_succ]
          rfl
        refine pure_ (i := 3) (N := some 23) (v := ?_) (a' := ?_) #[true, true, true, true, false, false, false, false, false, false, false] rfl rfl (by kernel_rfl) (fun _ _ _ h => h) (Or.inl ⟨by rfl, ?_⟩) ?_ ?_
        rotate_left
        · intro w'
          go_simp
          with_reducible rfl
        rotate_left
        · simp only [Act.put, List.setIfInBounds_toArray, List.set_cons_zero, List.set_cons_succ]
          rfl
        refine pure_ (i := 4) (N := some 24) (v := ?_) (a' := ?_) #[true, true, true, true, true, false, false, false, false, false, false] rfl rfl (by kernel_rfl) (fun _ _ _ h => h) (Or.inl ⟨by rfl, ?_⟩) ?_ ?_
        rotate_left
        · intro w'
          go_simp
          with_reducible rfl
        rotate_left
        · simp only [Act.put, List.setIfInBounds_toArray, List.set_cons_zero, List.set_cons_succ]
          rfl
        refine pure_ (i := 5) (N := some 25) (v := ?_) (a' := ?_) #[true, true, true, true, true, true, false, false, false, false, false] rfl rfl (by kernel_rfl) (fun _ _ _ h => h) (Or.inl ⟨by rfl, ?_⟩) ?_ ?_
        rotate_left
        · intro w'
          go_simp
          with_reducible rfl
        rotate_left
        · simp only [Act.put, List.setIfInBounds_toArray, List.set_cons_zero, List.set_cons_succ]
          rfl
        refine pure_ (i := 6) (N := some 26) (v := ?_) (a' := ?_) #[true, true, true, true, true, true, true, false, false, false, false] rfl rfl (by kernel_rfl) (fun _ _ _ h => h) (Or.inl ⟨by rfl, ?_⟩) ?_ ?_
        rotate_left
        · intro w'
          go_simp
          with_reducible rfl
        rotate_left
        · simp only [Act.put, List.setIfInBounds_toArray, List.set_cons_zero, List.set_cons_succ]
          rfl
        refine pure_ (i := 7) (N := some 27) (v := ?_) (a' := ?_) #[true, true, true, true, true, true, true, true, false, false, false] rfl rfl (by kernel_rfl) (fun _ _ _ h => h) (Or.inl ⟨by rfl, ?_⟩) ?_ ?_
        rotate_left
        · intro w'
          go_simp
          with_reducible rfl
        rotate_left
        · simp only [Act.put, List.setIfInBounds_toArray, List.set_cons_zero, List.set_cons_succ]
          rfl
        refine pure_ (i := 8) (N := some 28) (v := ?_) (a' := ?_) #[true, true, true, true, true, true, true, true, true, false, false] rfl rfl (by kernel_rfl) (fun _ _ _ h => h) (Or.inl ⟨by rfl, ?_⟩) ?_ ?_
        rotate_left
        · intro w'
          go_simp
          with_reducible rfl
        rotate_left
        · simp only [Act.put, List.setIfInBounds_toArray, List.set_cons_zero, List.set_cons_succ]
          rfl
        refine one_ (i := 9) (N := some 29) #[true, true, true, true, true, true, true, true, true, true, false] rfl rfl (by kernel_rfl) (by decide) (fun K hK => ?_)
        refine value_ (w1 := w2) (v := .slice A1 n1 c1) (by rfl) rfl (run_app rfl rfl rfl (hap _)) ?_
        refine hK.out _ _ trivial (fun hHeld => ?_)
        clear hK K
        refine norm_ (a' := ?_) ?_ ?_
        rotate_left
        · show Act.put _ (some 29) _ = _
          simp only [Act.put, List.setIfInBounds_toArray, List.set_cons_zero, List.set_cons_succ]
          rfl
        refine one_ (i := 10) (N := some 30) #[true, true, true, true, true, true, true, true, true, true, true] rfl rfl (by kernel_rfl) (by decide) (fun K hK => ?_)
        refine goes_ Try.func28 (by kernel_rfl) rfl #[.pointer (some ⟨g, 0, none⟩), .slice A1 n1 c1] (by rfl) rfl rfl (by simp only [List.map_toArray, List.map_cons, List.map_nil]; rfl) ?_
        refine HF.out.mono ?_
        rintro e w5 ⟨rfl, own5, c5', cap5, s5, r5, HL5, HU5⟩
        refine ⟨_, rfl, ?_⟩
        refine hK.out _ _ trivial (fun hHeld => ?_)
        clear hK K
        refine norm_ (a' := ?_) ?_ ?_
        rotate_left
        · show Act.put _ (some 30) _ = _
          simp only [Act.put, List.setIfInBounds_toArray, List.set_cons_zero, List.set_cons_succ]
          rfl
        refine done_ (by kernel_rfl) ?_
        clear hHeld
        have ho0 : o2 wr.heap.size = 0 := by rw [ho2]; exact fresh_new HB.out.size
        have e0' : w5.cell? ⟨wr.heap.size, 0, none⟩ = some (.int .i64 y.f0) := blk_at (HU5.out.blk (blk_below hE.out Hb2.out) (by rw [ho0]; decide)) 0 rfl
        have hsr : StC k33 o2 wr Au k ((l2.take k).map fun p => p.1.f1) := StC.made (Kd.R_mono (Kd.R_bound HO.out) (fun i hi => by rw [ho2]; exact fresh_new hi.2.1))
        have HSR := Lib.hid (((hsr.upd (S := fun _ => False) (own' := o2) (by decide) (Upd.of_below' hBr.out (fun _ _ => rfl))).upd (S := fun _ => False) (own' := o2) (by decide) (Upd.of_below' Hb2.out (fun _ _ => rfl))).upd (S := (· = 1)) (by decide) HU5.out)
        have Hlt := Lib.hid hlt
        clear hsr ho0 ho2 hap
        go_wp2_with (fail)
        go_ret2
        have hka : ((l2.take k).map (·.1)).length = k := by rw [List.length_map, List.length_take, Hl2.out]; have := Hlt.out; omega
        refine .inr ⟨(l2.take k).map (·.1), y, (l2.drop (k + 1)).map (·.1), l2.take k ++ l2.drop (k + 1), Au, cu, own5, c5', cap5, s5, r5, ?_, ?_, Hmk.out, by rw [List.map_append], by rw [hka]; rfl, ?_, HL5.out, (HU.out.then (HUw.out.mono (fun _ h => h.elim))).then HU5.out, ?_⟩
        · rw [← H12.out]
          have h1 := List.take_append_drop k l2
          rw [List.drop_eq_getElem_cons (by rw [Hl2.out]; exact Hlt.out), Hy.out] at h1
          have h2 := congrArg (List.map (·.1)) h1
          rw [List.map_append, List.map_cons] at h2
          exact h2.symm
        · intro x hx
          obtain ⟨p, hp, rfl⟩ := List.mem_map.1 hx
          have := HM.out p hp
          omega
        · rw [hka]; exact (Kd.R_reads' HO.out).2.1
        · rw [hka, List.map_map]; exact HSR.out
      · have k1 : decide (0 < y.f0) = false := decide_eq_false hmk
        have Hmk := Lib.hid hmk
        have hsb := Hsy.out.upd (S := fun _ => False) (own' := own1) (by decide) (Upd.of_below' HBb.out (fun _ _ => rfl))
        obtain ⟨h1, h2, h3, h4⟩ := St35_open hsb
        have hpy : partsR y.f1 ≤ 100000 := by
          have hm : y ∈ l2.map (·.1) := List.mem_map.2 ⟨_, List.getElem_mem (h := by rw [Hl2.out]; exact hlt), by rw [Hy.out]⟩
          rw [H12.out] at hm
          obtain ⟨p, hp, he⟩ := List.mem_map.1 hm
          rw [← he]
          exact HP.out p hp
        have HY := Lib.hid (copied27_rec y B5 d5 B6 d6 wb h2.now h1 h4.now h3 hpy hmk)
        have Htk : Hid ((l2.take (k + 1)).map (fun p => p.1.f1) = ((l2.take k).map fun p => p.1.f1) ++ [y.f1]) := Lib.hid (by
          rw [List.take_succ_eq_append_getElem (by rw [Hl2.out]; exact hlt), List.map_append, Hy.out]
          rfl)
        have Hsz := Lib.hid (show w1.heap.size ≤ wb.heap.size from HBb.out.size)
        clear hmk hsb h1 h2 h3 h4 hpy
        have hfld := field35
        go_wp2_with (first
          | (go_at_call 27; refine HY.out.mono ?_; rintro e w4 ⟨v5, v6, rfl, hv5, hv6, hb⟩; obtain ⟨A7, c7, rfl⟩ := Kd.R_slice hv5.out; obtain ⟨A8, c8, rfl⟩ := Kd.R_slice hv6.out)
          | (at_builtin; refine Kd.R_append k33 (w0 := w1) w1.heap.size rfl (.tmp 34) (.tmp 38) 38 33 (.agg #[.string ⟨#[]⟩, .int .i64 0, .int .i64 0, .string ⟨#[]⟩, .slice none 0 0, .slice none 0 0]) 96 rfl Try.underlying38 info33 rfl (by decide) (by decide) (.slice Au k cu) ((l2.take k).map fun p => p.1.f1) y.f1 _ (fun _ => True) (fun k_ => True ∧ some k_ ≠ (Value.slice Au k cu).ownBlock) rfl rfl ?hp (fun _ hk => hk) (fun _ _ => trivial) ?hO ?hB ?hS ?hl ?_
             case hp => exact k33_mkM _ _ _ y.f1 (Kd.R_lower (Kd.R_new' hv5.out (fun i hi => Kd.R_lt HOb.out i hi)) Hsz.out) (Kd.R_lower (Kd.R_new' hv6.out (fun i hi => Kd.R_lt HOb.out i hi)) Hsz.out)
             case hO => exact Kd.R_below HOb.out hb.out
             case hB => exact HBb.out.trans (hb.out.mono Hsz.out)
             case hS => exact Nat.le_trans Hsz.out hb.out.size
             case hl => rw [Hkl.out]; omega
             intro v1 w5 HO2 HB2 hg hat
             have HO2' := Lib.hid HO2
             have HB2' := Lib.hid HB2
             clear HO2 HB2 hg hat))
        go_roundw
        case rel =>
          refine ⟨k + 1, by omega, by go_num, ?_, HB2', Lib.hid ?_⟩
          · rw [Htk.out]; exact HO2'
          · intro p hp
            rw [List.take_succ_eq_append_getElem (by rw [Hl2.out]; exact hlt), List.mem_append, List.mem_singleton, Hy.out] at hp
            rcases hp with hp | rfl
            · have := HM.out p hp; omega
            · have := Hmk.out; simp only []; omega
        case measure => simp [intOf]; omega
    · obtain rfl : k = n := by omega
      go_wp2_with (fail)
      go_ret2
      refine .inl ⟨fun p hp => ?_, rfl, own1, c1, cap1, s1, r1, ?_, HU.out.then (Upd.of_below' HB.out (fun _ _ => rfl))⟩
      · rw [List.take_of_length_le (by rw [Hl2.out]; exact Nat.le_refl _)] at HM
        have hm : p.1 ∈ l2.map (·.1) := by rw [H12.out]; exact List.mem_map_of_mem hp
        obtain ⟨q, hq, he⟩ := List.mem_map.1 hm
        rw [← he]
        have := HM.out q hq
        omega
      · exact HL.out.upd (S := fun _ => False) (by decide) (by decide) (Upd.of_below' HB.out (fun _ _ => rfl))
end Go.Proofs.Ytcbfddhdaamimaa.PLaneFifo
