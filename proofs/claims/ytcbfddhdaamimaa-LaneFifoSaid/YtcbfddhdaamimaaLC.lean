/- The lane in memory; lay. -/
import Derived.Test.YtcbfddhdaamimaaLB
namespace Go.Proofs.Ytcbfddhdaamimaa.PLaneFifo
open Go.RowKit Go.Conc Go.Proofs.YtcbfddhdaamimaaW.PrintWords Go.Proofs.YtcbfddhdaamimaaW.PrintLast
set_option linter.unusedVariables false
set_option linter.unusedSimpArgs false

def recs (l : List Pr) : Int := ((l.filter fun p => p.1.f0 == 0).length : Nat)
theorem recs_snoc (l : List Pr) (p : Pr) : recs (l ++ [p]) = recs l + if p.1.f0 = 0 then 1 else 0 := by
  unfold recs
  rw [List.filter_append, List.length_append]
  by_cases h : p.1.f0 = 0 <;> simp [List.filter_cons, h]
theorem recs_le (l : List Pr) : 0 ≤ recs l ∧ recs l ≤ l.length := by
  unfold recs
  have := List.length_filter_le (fun p : Pr => p.1.f0 == 0) l
  omega
/-- A lane in memory, at block g, over channel c. -/
structure LaneAt (own : Nat → Nat) (w : World) (g : Nat) (rm : Int) (sh : Bool) (l : List Pr) (c cap s r : Nat) : Prop where
  hb : w.heap[g]? = some (.cells #[.chan (some c), .int .i64 (recs l), .int .i64 rm, .bool sh] 68 (0, 0))
  hc : w.heap[c]? = some (.chan cap (bufOf l) sh s r false)
  st : ∀ p ∈ l, St k35 own w p.1 p.2
  og : own g = 1
  oc : own c = 1
theorem blk_chan_ne {w : World} {g c : Nat} {cs : Array Value} {t : TypeId} {fr : Nat × Nat} {cap s r : Nat} {buf : Array Value} {cl tm : Bool} (hb : w.heap[g]? = some (.cells cs t fr)) (hc : w.heap[c]? = some (.chan cap buf cl s r tm)) : g ≠ c := fun e => by subst e; rw [hb] at hc; cases hc
theorem Upd.of_only {S : Nat → Prop} {o : Nat → Nat} {c : Nat} {w w' : World} (h : Only c w w') (hS : S (o c)) : Upd S o w o w' := ⟨h.os, h.tape, h.output, h.size, fun _ _ _ => rfl, fun k hk ho => h.block k hk (fun e => ho (by subst e; exact hS))⟩
theorem R_setChan {α : Type} {d : Kd α} {e base : Nat} {ok : Nat → Prop} {w : World} {v : Value} {xs : List α} (h : d.R e w base ok v xs) {c cap s r : Nat} {buf : Array Value} {cl tm : Bool} (hc : w.heap[c]? = some (.chan cap buf cl s r tm)) (cap' : Nat) (buf' : Array Value) (cl' : Bool) (s' r' : Nat) (tm' : Bool) : d.R e (w.setChan c cap' buf' cl' s' r' tm') base ok v xs :=
  Kd.R_mono (Kd.R_move (Kd.R_bound h) (fun k hk => by obtain ⟨_, _, _, q, _, cells, hcells⟩ := hk; exact chan_far w (blk_chan_ne hcells hc) ..)) (fun _ hk => hk.1)
theorem at_pk {own : Nat → Nat} {w0 w : World} {A : Option Addr} {n : Nat} {l : List Pr} (h : (pk k35 own w0).C w A n l) (k : Nat) (hk : k < l.length) : ∃ ad x A5 c5 A6 c6, A = some ad ∧ l[k] = (x, [.int .i64 x.f0, .string x.f1.f0, .int .i64 x.f1.f1.f0, .int .i64 x.f1.f1.f1, .string x.f1.f1.f2, .slice A5 x.f1.f1.f3.length c5, .slice A6 x.f1.f2.length c6]) ∧ St k35 own w0 x [.int .i64 x.f0, .string x.f1.f0, .int .i64 x.f1.f1.f0, .int .i64 x.f1.f1.f1, .string x.f1.f1.f2, .slice A5 x.f1.f1.f3.length c5, .slice A6 x.f1.f2.length c6] ∧ w.cell? (ad.add (k * 7)) = some (.int .i64 x.f0) ∧ w.cell? ⟨(ad.add (k * 7)).block, (ad.add (k * 7)).off + 1, none⟩ = some (.string x.f1.f0) ∧ w.cell? ⟨(ad.add (k * 7)).block, (ad.add (k * 7)).off + 2, none⟩ = some (.int .i64 x.f1.f1.f0) ∧ w.cell? ⟨(ad.add (k * 7)).block, (ad.add (k * 7)).off + 3, none⟩ = some (.int .i64 x.f1.f1.f1) ∧ w.cell? ⟨(ad.add (k * 7)).block, (ad.add (k * 7)).off + 4, none⟩ = some (.string x.f1.f1.f2) ∧ w.cell? ⟨(ad.add (k * 7)).block, (ad.add (k * 7)).off + 5, none⟩ = some (.slice A5 x.f1.f1.f3.length c5) ∧ w.cell? ⟨(ad.add (k * 7)).block, (ad.add (k * 7)).off + 6, none⟩ = some (.slice A6 x.f1.f2.length c6) := by
  obtain ⟨ad, c, e, hlen, hK, hc0⟩ := Kd.C_get h (z35, []) (k : Int) (by omega) (by have := Kd.C_len h; omega)
  rw [Int.toNat_natCast] at hK hc0
  rw [List.getD_eq_getElem?_getD, List.getElem?_eq_getElem hk, Option.getD_some] at hK
  obtain ⟨h1, h2⟩ := hK
  obtain ⟨A5, c5, A6, c6, hcs, -⟩ := k35_open h2.now
  have hc : ∀ j u, c[j]? = some u → w.cell? (ad.add (k * 7 + j)) = some u := hc0
  generalize hp : l[k] = p at *
  obtain ⟨x, cs⟩ := p
  simp only [] at h1 h2 hcs
  subst h1
  subst hcs
  exact ⟨ad, x, A5, c5, A6, c6, e, rfl, h2, hc 0 _ rfl, by rw [← add_field _ _ 1 (by omega)]; exact hc 1 _ rfl, by rw [← add_field _ _ 2 (by omega)]; exact hc 2 _ rfl, by rw [← add_field _ _ 3 (by omega)]; exact hc 3 _ rfl, by rw [← add_field _ _ 4 (by omega)]; exact hc 4 _ rfl, by rw [← add_field _ _ 5 (by omega)]; exact hc 5 _ rfl, by rw [← add_field _ _ 6 (by omega)]; exact hc 6 _ rfl⟩
set_option maxRecDepth 100000 in
set_option maxHeartbeats 4000000 in
theorem lay26 (own : Nat → Nat) (w : World) (g c cap s r : Nat) (rm : Int) (l : List Pr) (h : LaneAt own w g rm false l c cap s r) (x : S35) (cs : List Value) (hx : St k35 own w x cs) (hl : l.length ≤ 900000) :
    Calls Try.prog 26 #[.pointer (some ⟨g, 0, none⟩), .agg cs.toArray] w fun e w' => e = .returned (.tuple #[]) ∧ ∃ own' c' cap' s' r', LaneAt own' w' g rm false (l ++ [(x, cs)]) c' cap' s' r' ∧ Upd (· = 1) own w own' w' := by
  obtain ⟨A5, c5, A6, c6, hcs, -⟩ := k35_open hx.now
  subst hcs
  have HX := Lib.hid hx
  have HH := Lib.hid h
  have Hl := Lib.hid hl
  have Hgw := Lib.hid (blk_lt h.hb)
  have Hcw := Lib.hid (blk_lt h.hc)
  have hr0 := recs_le l
  have HG1 := Lib.hid (blk_alloc h.hb (.cells #[.int .i64 x.f0, .string x.f1.f0, .int .i64 x.f1.f1.f0, .int .i64 x.f1.f1.f1, .string x.f1.f1.f2, .slice A5 x.f1.f1.f3.length c5, .slice A6 x.f1.f2.length c6] 35))
  have HC1 := Lib.hid (blk_alloc h.hc (.cells #[.int .i64 x.f0, .string x.f1.f0, .int .i64 x.f1.f1.f0, .int .i64 x.f1.f1.f1, .string x.f1.f1.f2, .slice A5 x.f1.f1.f3.length c5, .slice A6 x.f1.f2.length c6] 35))
  have HR := Lib.hid (recs_snoc l (x, [.int .i64 x.f0, .string x.f1.f0, .int .i64 x.f1.f1.f0, .int .i64 x.f1.f1.f1, .string x.f1.f1.f2, .slice A5 x.f1.f1.f3.length c5, .slice A6 x.f1.f2.length c6]))
  have HB1 := Lib.hid (blk_new w (.cells #[.int .i64 x.f0, .string x.f1.f0, .int .i64 x.f1.f1.f0, .int .i64 x.f1.f1.f1, .string x.f1.f1.f2, .slice A5 x.f1.f1.f3.length c5, .slice A6 x.f1.f2.length c6] 35))
  have HU1 : Hid (Upd (· = 1) own w (fresh own w 0) (w.alloc (.cells #[.int .i64 x.f0, .string x.f1.f0, .int .i64 x.f1.f1.f0, .int .i64 x.f1.f1.f1, .string x.f1.f1.f2, .slice A5 x.f1.f1.f3.length c5, .slice A6 x.f1.f2.length c6] 35))) := Lib.hid (Upd.alloc _ _)
  clear hx h
  go_enter Try.func26, Try.ntmps26
  go_upto_region 1 with (fail)
  generalize w.alloc (.cells #[.int .i64 x.f0, .string x.f1.f0, .int .i64 x.f1.f1.f0, .int .i64 x.f1.f1.f1, .string x.f1.f1.f2, .slice A5 x.f1.f1.f3.length c5, .slice A6 x.f1.f2.length c6] 35) = w1 at *
  have e0 : w1.cell? ⟨w.heap.size, 0, none⟩ = some (.int .i64 x.f0) := blk_at HB1.out 0 rfl
  have g1 : w1.cell? ⟨g, 1, none⟩ = some (.int .i64 (recs l)) := blk_at HG1.out 1 rfl
  have z1 : w1.frozen? ⟨g, 1, none⟩ = false := blk_frozen HG1.out 1
  go_upto_if 9 with (fail)
  go_cut [] (fun wx => Hid (wx.heap[g]? = some (.cells #[.chan (some c), .int .i64 (recs (l ++ [(x, [.int .i64 x.f0, .string x.f1.f0, .int .i64 x.f1.f1.f0, .int .i64 x.f1.f1.f1, .string x.f1.f1.f2, .slice A5 x.f1.f1.f3.length c5, .slice A6 x.f1.f2.length c6])])), .int .i64 rm, .bool false] 68 (0, 0))) ∧ Hid (wx.heap[c]? = some (.chan cap (bufOf l) false s r false)) ∧ Hid (wx.heap[w.heap.size]? = some (.cells #[.int .i64 x.f0, .string x.f1.f0, .int .i64 x.f1.f1.f0, .int .i64 x.f1.f1.f1, .string x.f1.f1.f2, .slice A5 x.f1.f1.f3.length c5, .slice A6 x.f1.f2.length c6] 35 (0, 0))) ∧ Hid (Upd (· = 1) own w (fresh own w 0) wx))
  case first =>
    by_cases hz : x.f0 = 0
    · have k1 : (x.f0 == 0) = true := by simp [hz]
      rw [if_pos hz] at HR
      clear hz
      go_wp2_with (fail)
      go_meet
      refine ⟨?_, ?_, ?_, ?_⟩
      · rw [HR.out]; exact Lib.hid (blk_put HG1.out 1 _ rfl)
      · exact Lib.hid ((Below.heap_setCell _ _ _ _ (by have := blk_chan_ne HG1.out HC1.out; simp only []; omega)).trans HC1.out)
      · exact Lib.hid (blk_far HB1.out (by have := Hgw.out; simp only []; omega) _)
      · exact Lib.hid (HU1.out.then (Upd.set (p := ⟨g, 1, none⟩) (by show fresh own w 0 g = 1; rw [fresh_old Hgw.out]; exact HH.out.og) _))
    · have k1 : (x.f0 == 0) = false := by simp [hz]
      rw [if_neg hz, Int.add_zero] at HR
      clear hz
      go_wp2_with (fail)
      go_meet
      exact ⟨by rw [HR.out]; exact HG1, HC1, HB1, HU1⟩
  case rest =>
    obtain ⟨HG, HC, HB, HU⟩ := hcut
    clear e0 g1 z1 HG1 HC1 HB1 HU1 HR
    have k0 : wc.cell? ⟨g, 0, none⟩ = some (.chan (some c)) := blk_at HG.out 0 rfl
    have e0 : wc.cell? ⟨w.heap.size, 0, none⟩ = some (.int .i64 x.f0) := blk_at HB.out 0 rfl
    have e1 : wc.cell? ⟨w.heap.size, 1, none⟩ = some (.string x.f1.f0) := blk_at HB.out 1 rfl
    have e2 : wc.cell? ⟨w.heap.size, 2, none⟩ = some (.int .i64 x.f1.f1.f0) := blk_at HB.out 2 rfl
    have e3 : wc.cell? ⟨w.heap.size, 3, none⟩ = some (.int .i64 x.f1.f1.f1) := blk_at HB.out 3 rfl
    have e4 : wc.cell? ⟨w.heap.size, 4, none⟩ = some (.string x.f1.f1.f2) := blk_at HB.out 4 rfl
    have e5 : wc.cell? ⟨w.heap.size, 5, none⟩ = some (.slice A5 x.f1.f1.f3.length c5) := blk_at HB.out 5 rfl
    have e6 : wc.cell? ⟨w.heap.size, 6, none⟩ = some (.slice A6 x.f1.f2.length c6) := blk_at HB.out 6 rfl
    have HST : Hid (∀ p ∈ l ++ [(x, [.int .i64 x.f0, .string x.f1.f0, .int .i64 x.f1.f1.f0, .int .i64 x.f1.f1.f1, .string x.f1.f1.f2, .slice A5 x.f1.f1.f3.length c5, .slice A6 x.f1.f2.length c6])], St k35 (fresh own w 0) wc p.1 p.2) := Lib.hid (fun p hp => by
      rcases List.mem_append.1 hp with hp | hp
      · exact (HH.out.st p hp).upd (by decide) HU.out
      · rw [List.mem_singleton] at hp
        subst hp
        exact HX.out.upd (by decide) HU.out)
    go_upto_region 5 with (fail)
    refine sem_first ?_
    by_cases hroom : l.length < cap
    · refine sem_sel_send (x := .agg #[.int .i64 x.f0, .string x.f1.f0, .int .i64 x.f1.f1.f0, .int .i64 x.f1.f1.f1, .string x.f1.f1.f2, .slice A5 x.f1.f1.f3.length c5, .slice A6 x.f1.f2.length c6]) (z := .agg #[.int .i64 0, .string ⟨#[]⟩, .int .i64 0, .int .i64 0, .string ⟨#[]⟩, .slice none 0 0, .slice none 0 0]) (c := c) (cap := cap) (buf := bufOf l) (s := s) (r := r) (tm := false) rfl (by rfl) ?_ HC.out (by rw [bufOf_size]; exact hroom) ?_
      · simp [go_sem, execOp, scase, Act.eval, Try.zeroValue35]
      · rw [show (bufOf l).push (.agg #[.int .i64 x.f0, .string x.f1.f0, .int .i64 x.f1.f1.f0, .int .i64 x.f1.f1.f1, .string x.f1.f1.f2, .slice A5 x.f1.f1.f3.length c5, .slice A6 x.f1.f2.length c6]) = bufOf (l ++ [(x, [.int .i64 x.f0, .string x.f1.f0, .int .i64 x.f1.f1.f0, .int .i64 x.f1.f1.f1, .string x.f1.f1.f2, .slice A5 x.f1.f1.f3.length c5, .slice A6 x.f1.f2.length c6])]) from bufOf_push l (x, [.int .i64 x.f0, .string x.f1.f0, .int .i64 x.f1.f1.f0, .int .i64 x.f1.f1.f1, .string x.f1.f1.f2, .slice A5 x.f1.f1.f3.length c5, .slice A6 x.f1.f2.length c6])]
        refine sem_norm (a' := ?_) ?_ ?_
        rotate_left
        · simp only [Act.put, List.setIfInBounds_toArray, List.set_cons_zero, List.set_cons_succ]
          rfl
        refine sem_rest ?_
        go_wp2_with (fail)
        go_end0
        have HU2 : Upd (· = 1) (fresh own w 0) wc (fresh own w 0) (wc.setChan c cap (bufOf (l ++ [(x, [.int .i64 x.f0, .string x.f1.f0, .int .i64 x.f1.f1.f0, .int .i64 x.f1.f1.f1, .string x.f1.f1.f2, .slice A5 x.f1.f1.f3.length c5, .slice A6 x.f1.f2.length c6])])) false (s + 1) r false) := Upd.chan (by show fresh own w 0 c = 1; rw [fresh_old Hcw.out]; exact HH.out.oc) ..
        refine ⟨rfl, fresh own w 0, c, cap, s + 1, r, ⟨?_, chan_now wc HC.out, fun p hp => (HST.out p hp).upd (by decide) HU2, ?_, ?_⟩, HU.out.then HU2⟩
        · exact (chan_far wc (blk_chan_ne HG.out HC.out) ..).trans HG.out
        · rw [fresh_old Hgw.out]; exact HH.out.og
        · rw [fresh_old Hcw.out]; exact HH.out.oc
    · refine sem_sel_full (x := .agg #[.int .i64 x.f0, .string x.f1.f0, .int .i64 x.f1.f1.f0, .int .i64 x.f1.f1.f1, .string x.f1.f1.f2, .slice A5 x.f1.f1.f3.length c5, .slice A6 x.f1.f2.length c6]) (z := .agg #[.int .i64 0, .string ⟨#[]⟩, .int .i64 0, .int .i64 0, .string ⟨#[]⟩, .slice none 0 0, .slice none 0 0]) (c := c) (cap := cap) (buf := bufOf l) (s := s) (r := r) (tm := false) rfl (by rfl) ?_ HC.out (by rw [bufOf_size]; omega) ?_
      · simp [go_sem, execOp, scase, Act.eval, Try.zeroValue35]
      · clear hroom
        refine sem_norm (a' := ?_) ?_ ?_
        rotate_left
        · simp only [Act.put, List.setIfInBounds_toArray, List.set_cons_zero, List.set_cons_succ]
          rfl
        refine sem_rest ?_
        have HD := Lib.hid (drain31 (fresh own w 0) wc g c cap s r _ rm false l HG.out HC.out (fun p hp => HST.out p (List.mem_append_left _ hp)) (by have := Hl.out; omega))
        go_upto_region 7 with (go_at_call 31; refine HD.out.mono ?_; rintro e w2 ⟨v, rfl, hR, hO, s2, r2, hC2⟩; obtain ⟨Ao, co, rfl⟩ := Kd.R_slice hR.out)
        have HR2 := hR
        have HO2 := hO
        have HG2 : Hid (w2.heap[g]? = some (.cells #[.chan (some c), .int .i64 (recs (l ++ [(x, [.int .i64 x.f0, .string x.f1.f0, .int .i64 x.f1.f1.f0, .int .i64 x.f1.f1.f1, .string x.f1.f1.f2, .slice A5 x.f1.f1.f3.length c5, .slice A6 x.f1.f2.length c6])])), .int .i64 rm, .bool false] 68 (0, 0))) := Lib.hid ((hO.out.block g (blk_lt HG.out) (blk_chan_ne HG.out HC.out)).trans HG.out)
        have HB2 : Hid (w2.heap[w.heap.size]? = some (.cells #[.int .i64 x.f0, .string x.f1.f0, .int .i64 x.f1.f1.f0, .int .i64 x.f1.f1.f1, .string x.f1.f1.f2, .slice A5 x.f1.f1.f3.length c5, .slice A6 x.f1.f2.length c6] 35 (0, 0))) := Lib.hid ((hO.out.block _ (blk_lt HB.out) (blk_chan_ne HB.out HC.out)).trans HB.out)
        have HU2 : Hid (Upd (· = 1) own w (fresh own w 0) w2) := Lib.hid (HU.out.then (Upd.of_only hO.out (by show fresh own w 0 c = 1; rw [fresh_old Hcw.out]; exact HH.out.oc)))
        have Hgc := Lib.hid (blk_lt HG.out)
        have HST2 : Hid (∀ p ∈ l ++ [(x, [.int .i64 x.f0, .string x.f1.f0, .int .i64 x.f1.f1.f0, .int .i64 x.f1.f1.f1, .string x.f1.f1.f2, .slice A5 x.f1.f1.f3.length c5, .slice A6 x.f1.f2.length c6])], St k35 (fresh own w 0) w2 p.1 p.2) := Lib.hid (fun p hp => (HST.out p hp).upd (by decide) (Upd.of_only (S := (· = 1)) hO.out (by show fresh own w 0 c = 1; rw [fresh_old Hcw.out]; exact HH.out.oc)))
        have hR2 : Hid ((pk k35 (fresh own w 0) w2).R 35 w2 wc.heap.size (fun _ => True) (.slice Ao l.length co) l) := Lib.hid (pk_R hR.out (S := (· = 1)) (by decide) (Upd.of_only hO.out (by show fresh own w 0 c = 1; rw [fresh_old Hcw.out]; exact HH.out.oc)))
        clear HR2 HO2 hR hO hC2 HC HG HB HU HST k0 e0 e1 e2 e3 e4 e5 e6 HD
        have hl9 := Hl.out
        obtain ⟨n, hn⟩ : ∃ n, n = l.length := ⟨_, rfl⟩
        have Hn := Lib.hid hn
        rw [← hn] at hR2 hl9 ⊢
        clear hn
        have hmk : (Instr.makeChan 66 (.int .i64 (2 * (n : Int) + 4))).run Try.prog w2 = .ok (.chan (some w2.heap.size)) (w2.alloc (.chan (2 * n + 4) #[] false 0 0 false)) := by
          obtain ⟨i0, hi, -, -, hz2⟩ := info_parts info35
          have := run_makeChan (P := Try.prog) (w := w2) Try.underlying66 hi .i64 (2 * n + 4) (by omega) (by rw [hz2]; omega)
          rw [show ((2 * n + 4 : Nat) : Int) = 2 * (n : Int) + 4 by omega] at this
          exact this
        have g0 : (w2.alloc (.chan (2 * n + 4) #[] false 0 0 false)).frozen? ⟨g, 0, none⟩ = false := blk_frozen (blk_alloc HG2.out _) 0
        have p0 : (w2.alloc (.chan (2 * n + 4) #[] false 0 0 false)).cell? ⟨g, 0, none⟩ = some (.chan (some c)) := blk_at (blk_alloc HG2.out _) 0 rfl
        go_upto_region 8 with (fail)
        obtain ⟨own2, hown2⟩ : ∃ own2 : Nat → Nat, own2 = fun k => if k < w.heap.size then own k else if k = w2.heap.size then 1 else 0 := ⟨_, rfl⟩
        have Hown := Lib.hid hown2
        have ho1 : ∀ k, k < w.heap.size → own2 k = own k := fun k hk => by rw [hown2]; exact if_pos hk
        have ho2 : own2 w2.heap.size = 1 := by rw [hown2]; show (if _ then _ else _) = 1; rw [if_neg (by have := HU2.out.size; omega)]; exact if_pos rfl
        have ho3 : ∀ k, k < w2.heap.size → own2 k = fresh own w 0 k := fun k hk => by
          rw [hown2]
          unfold fresh
          by_cases hk2 : k < w.heap.size
          · simp [hk2]
          · simp [hk2]; omega
        have Ho1 := Lib.hid ho1
        have Ho2 := Lib.hid ho2
        have HG3 := Lib.hid (blk_put (blk_alloc HG2.out (.chan (2 * n + 4) #[] false 0 0 false)) 0 (.chan (some w2.heap.size)) rfl)
        have HC3 : Hid ((((w2.alloc (.chan (2 * n + 4) #[] false 0 0 false)).setCell ⟨g, 0, none⟩ (.chan (some w2.heap.size)))).heap[w2.heap.size]? = some (.chan (2 * n + 4) (bufOf (l.take 0)) false 0 0 false)) := Lib.hid ((Below.heap_setCell _ _ _ _ (by have := blk_lt HG2.out; simp only []; omega)).trans (blk_new _ _))
        have HB3 := Lib.hid (blk_far (blk_alloc HB2.out (.chan (2 * n + 4) #[] false 0 0 false)) (p := ⟨g, 0, none⟩) (by have := Hgw.out; simp only []; omega) (.chan (some w2.heap.size)))
        have HU23 : Hid (Upd (· = 1) (fresh own w 0) w2 own2 (((w2.alloc (.chan (2 * n + 4) #[] false 0 0 false)).setCell ⟨g, 0, none⟩ (.chan (some w2.heap.size))))) := Lib.hid ((Upd.of_below' ((Below.refl _ _).alloc (Nat.le_refl _) _) ho3).then (Upd.set (p := ⟨g, 0, none⟩) (by show own2 g = 1; rw [ho1 g Hgw.out]; exact HH.out.og) _))
        have HU3 := Lib.hid (HU2.out.then HU23.out)
        have HR3 := Lib.hid (pk_R (R_low (Kd.R_alloc hR2.out (.chan (2 * n + 4) #[] false 0 0 false)) (p := ⟨g, 0, none⟩) Hgc.out (.chan (some w2.heap.size))) (S := (· = 1)) (by decide) HU23.out)
        have HST3 : Hid (∀ p ∈ l ++ [(x, [.int .i64 x.f0, .string x.f1.f0, .int .i64 x.f1.f1.f0, .int .i64 x.f1.f1.f1, .string x.f1.f1.f2, .slice A5 x.f1.f1.f3.length c5, .slice A6 x.f1.f2.length c6])], St k35 own2 (((w2.alloc (.chan (2 * n + 4) #[] false 0 0 false)).setCell ⟨g, 0, none⟩ (.chan (some w2.heap.size)))) p.1 p.2) := Lib.hid (fun p hp => (HST2.out p hp).upd (by decide) HU23.out)
        have Hc3 : Hid (w.heap.size ≤ w2.heap.size) := Lib.hid HU2.out.size
        clear hmk g0 p0 ho1 ho2 ho3 hown2 Hown HU23 HU2 HG2 HB2 hR2 HST2
        generalize ((w2.alloc (.chan (2 * n + 4) #[] false 0 0 false)).setCell ⟨g, 0, none⟩ (.chan (some w2.heap.size))) = w3 at *
        generalize w2.heap.size = c2 at *
        generalize wc.heap.size = bs at *
        go_wp2_with (fail)
        go_loopw [37] (fun v37 wr => ∃ k, k ≤ n ∧ v37 = .int .i64 (k : Nat) ∧ Hid (wr.heap[g]? = some (.cells #[.chan (some c2), .int .i64 (recs (l ++ [(x, [.int .i64 x.f0, .string x.f1.f0, .int .i64 x.f1.f1.f0, .int .i64 x.f1.f1.f1, .string x.f1.f1.f2, .slice A5 x.f1.f1.f3.length c5, .slice A6 x.f1.f2.length c6])])), .int .i64 rm, .bool false] 68 (0, 0))) ∧ Hid (wr.heap[c2]? = some (.chan (2 * n + 4) (bufOf (l.take k)) false k 0 false)) ∧ Hid (wr.heap[w.heap.size]? = some (.cells #[.int .i64 x.f0, .string x.f1.f0, .int .i64 x.f1.f1.f0, .int .i64 x.f1.f1.f1, .string x.f1.f1.f2, .slice A5 x.f1.f1.f3.length c5, .slice A6 x.f1.f2.length c6] 35 (0, 0))) ∧ Hid ((pk k35 own2 wr).R 35 wr bs (fun _ => True) (.slice Ao n co) l) ∧ Hid (Upd (· = 1) own2 w3 own2 wr)) (fun v37 _ => n - (intOf v37).toNat)
        case atStart => exact ⟨0, Nat.zero_le _, rfl, HG3, HC3, HB3, HR3, Lib.hid (Upd.refl _ _ _)⟩
        case round =>
          obtain ⟨k, hk, rfl, HG4, HC4, HB4, HR4, HU4⟩ := hrel
          clear HG3 HC3 HB3 HR3
          by_cases hlt : k < n
          · obtain ⟨ad, y, B5, d5, B6, d6, rfl, hy, hsy, a0, a1, a2, a3, a4, a5, a6⟩ := at_pk (Kd.R_reads' HR4.out).2.2 k (by rw [← Hn.out]; exact hlt)
            have Hy := Lib.hid hy
            clear hy hsy
            go_upto_region 11 with (fail)
            have HE5 := Lib.hid (blk_new wr (.cells #[.int .i64 y.f0, .string y.f1.f0, .int .i64 y.f1.f1.f0, .int .i64 y.f1.f1.f1, .string y.f1.f1.f2, .slice B5 y.f1.f1.f3.length d5, .slice B6 y.f1.f2.length d6] 35))
            have HG5 := Lib.hid (blk_alloc HG4.out (.cells #[.int .i64 y.f0, .string y.f1.f0, .int .i64 y.f1.f1.f0, .int .i64 y.f1.f1.f1, .string y.f1.f1.f2, .slice B5 y.f1.f1.f3.length d5, .slice B6 y.f1.f2.length d6] 35))
            have HC5 := Lib.hid (blk_alloc HC4.out (.cells #[.int .i64 y.f0, .string y.f1.f0, .int .i64 y.f1.f1.f0, .int .i64 y.f1.f1.f1, .string y.f1.f1.f2, .slice B5 y.f1.f1.f3.length d5, .slice B6 y.f1.f2.length d6] 35))
            have HB5 := Lib.hid (blk_alloc HB4.out (.cells #[.int .i64 y.f0, .string y.f1.f0, .int .i64 y.f1.f1.f0, .int .i64 y.f1.f1.f1, .string y.f1.f1.f2, .slice B5 y.f1.f1.f3.length d5, .slice B6 y.f1.f2.length d6] 35))
            have HU45 : Hid (Upd (· = 1) own2 wr own2 (wr.alloc (.cells #[.int .i64 y.f0, .string y.f1.f0, .int .i64 y.f1.f1.f0, .int .i64 y.f1.f1.f1, .string y.f1.f1.f2, .slice B5 y.f1.f1.f3.length d5, .slice B6 y.f1.f2.length d6] 35))) := Lib.hid (Upd.of_below' ((Below.refl _ _).alloc (Nat.le_refl _) _) (fun _ _ => rfl))
            have HR5 := Lib.hid (pk_R (Kd.R_alloc HR4.out (.cells #[.int .i64 y.f0, .string y.f1.f0, .int .i64 y.f1.f1.f0, .int .i64 y.f1.f1.f1, .string y.f1.f1.f2, .slice B5 y.f1.f1.f3.length d5, .slice B6 y.f1.f2.length d6] 35)) (S := (· = 1)) (by decide) HU45.out)
            have HU5 := Lib.hid (HU4.out.then HU45.out)
            clear HG4 HC4 HB4 HR4 HU4 HU45 a0 a1 a2 a3 a4 a5 a6
            generalize wr.alloc (.cells #[.int .i64 y.f0, .string y.f1.f0, .int .i64 y.f1.f1.f0, .int .i64 y.f1.f1.f1, .string y.f1.f1.f2, .slice B5 y.f1.f1.f3.length d5, .slice B6 y.f1.f2.length d6] 35) = w4 at *
            have k0 : w4.cell? ⟨g, 0, none⟩ = some (.chan (some c2)) := blk_at HG5.out 0 rfl
            have b0 : w4.cell? ⟨wr.heap.size, 0, none⟩ = some (.int .i64 y.f0) := blk_at HE5.out 0 rfl
            have b1 : w4.cell? ⟨wr.heap.size, 1, none⟩ = some (.string y.f1.f0) := blk_at HE5.out 1 rfl
            have b2 : w4.cell? ⟨wr.heap.size, 2, none⟩ = some (.int .i64 y.f1.f1.f0) := blk_at HE5.out 2 rfl
            have b3 : w4.cell? ⟨wr.heap.size, 3, none⟩ = some (.int .i64 y.f1.f1.f1) := blk_at HE5.out 3 rfl
            have b4 : w4.cell? ⟨wr.heap.size, 4, none⟩ = some (.string y.f1.f1.f2) := blk_at HE5.out 4 rfl
            have b5 : w4.cell? ⟨wr.heap.size, 5, none⟩ = some (.slice B5 y.f1.f1.f3.length d5) := blk_at HE5.out 5 rfl
            have b6 : w4.cell? ⟨wr.heap.size, 6, none⟩ = some (.slice B6 y.f1.f2.length d6) := blk_at HE5.out 6 rfl
            generalize wr.heap.size = bx at *
            refine sem_orders [[0, 1, 2, 3, 4, 5], [0, 1, 2, 4, 3, 5], [0, 1, 4, 2, 3, 5], [0, 4, 1, 2, 3, 5], [4, 0, 1, 2, 3, 5]] (by kernel_rfl) (by kernel_rfl) ?_
            refine List.forall_mem_cons.2 ⟨?_, List.forall_mem_cons.2 ⟨?_, List.forall_mem_cons.2 ⟨?_, List.forall_mem_cons.2 ⟨?_, List.forall_mem_cons.2 ⟨?_, fun _ h => by cases h⟩⟩⟩⟩⟩
            all_goals (
              refine sem_pure (v := ?_) rfl (by rfl) ?_ ?_
              rotate_left
              · go_simp
                with_reducible rfl
              refine sem_norm (a' := ?_) ?_ ?_
              rotate_left
              · simp only [Act.put, List.setIfInBounds_toArray, List.set_cons_zero, List.set_cons_succ]
                rfl
              refine sem_pure (v := ?_) rfl (by rfl) ?_ ?_
              rotate_left
              · go_simp
                with_reducible rfl
              refine sem_norm (a' := ?_) ?_ ?_
              rotate_left
              · simp only [Act.put, List.setIfInBounds_toArray, List.set_cons_zero, List.set_cons_succ]
                rfl
              refine sem_pure (v := ?_) rfl (by rfl) ?_ ?_
              rotate_left
              · go_simp
                with_reducible rfl
              refine sem_norm (a' := ?_) ?_ ?_
              rotate_left
              · simp only [Act.put, List.setIfInBounds_toArray, List.set_cons_zero, List.set_cons_succ]
                rfl
              refine sem_pure (v := ?_) rfl (by rfl) ?_ ?_
              rotate_left
              · go_simp
                with_reducible rfl
              refine sem_norm (a' := ?_) ?_ ?_
              rotate_left
              · simp only [Act.put, List.setIfInBounds_toArray, List.set_cons_zero, List.set_cons_succ]
                rfl
              refine sem_pure (v := ?_) rfl (by rfl) ?_ ?_
              rotate_left
              · go_simp
                with_reducible rfl
              refine sem_norm (a' := ?_) ?_ ?_
              rotate_left
              · simp only [Act.put, List.setIfInBounds_toArray, List.set_cons_zero, List.set_cons_succ]
                rfl
              refine sem_send (x := .agg #[.int .i64 y.f0, .string y.f1.f0, .int .i64 y.f1.f1.f0, .int .i64 y.f1.f1.f1, .string y.f1.f1.f2, .slice B5 y.f1.f1.f3.length d5, .slice B6 y.f1.f2.length d6]) (z := .tuple #[]) (c := c2) (cap := 2 * n + 4) (buf := bufOf (l.take k)) (s := k) (r := 0) (tm := false) rfl (by rfl) ?_ HC5.out (by rw [bufOf_size, List.length_take]; omega) ?_
              · simp [go_sem, execOp, scase, Act.eval]
              rw [show (bufOf (l.take k)).push (.agg #[.int .i64 y.f0, .string y.f1.f0, .int .i64 y.f1.f1.f0, .int .i64 y.f1.f1.f1, .string y.f1.f1.f2, .slice B5 y.f1.f1.f3.length d5, .slice B6 y.f1.f2.length d6]) = bufOf (l.take (k + 1)) by rw [List.take_succ_eq_append_getElem (by rw [← Hn.out]; exact hlt), Hy.out]; exact bufOf_push _ (y, [.int .i64 y.f0, .string y.f1.f0, .int .i64 y.f1.f1.f0, .int .i64 y.f1.f1.f1, .string y.f1.f1.f2, .slice B5 y.f1.f1.f3.length d5, .slice B6 y.f1.f2.length d6])]
              refine sem_end ?_
              have HU6 : Hid (Upd (· = 1) own2 w4 own2 (w4.drew.setChan c2 (2 * n + 4) (bufOf (l.take (k + 1))) false (k + 1) 0 false)) := Lib.hid (Upd.drew.then (Upd.chan (by show own2 c2 = 1; exact Ho2.out) ..))
              have HG6 := Lib.hid ((chan_far w4.drew (blk_chan_ne HG5.out HC5.out) (2 * n + 4) (bufOf (l.take (k + 1))) false (k + 1) 0 false).trans HG5.out)
              have HC6 : Hid ((w4.drew.setChan c2 (2 * n + 4) (bufOf (l.take (k + 1))) false (k + 1) 0 false).heap[c2]? = _) := Lib.hid (chan_now w4.drew HC5.out)
              have HB6 := Lib.hid ((chan_far w4.drew (blk_chan_ne HB5.out HC5.out) (2 * n + 4) (bufOf (l.take (k + 1))) false (k + 1) 0 false).trans HB5.out)
              have HR6 := Lib.hid (pk_R (R_setChan (Kd.R_drew HR5.out) (w := w4.drew) HC5.out (2 * n + 4) (bufOf (l.take (k + 1))) false (k + 1) 0 false) (S := (· = 1)) (by decide) HU6.out)
              have HU7 := Lib.hid (HU5.out.then HU6.out)
              generalize w4.drew.setChan c2 (2 * n + 4) (bufOf (l.take (k + 1))) false (k + 1) 0 false = w6 at *
              clear HU6 HG5 HC5 HB5 HR5 HU5 HE5 k0 b0 b1 b2 b3 b4 b5 b6
              go_wp2_with (fail)
              go_roundw
              case rel => exact ⟨k + 1, by omega, by go_num, HG6, HC6, HB6, HR6, HU7⟩
              case measure => simp [intOf]; omega)
          · obtain rfl : k = n := by omega
            rw [List.take_of_length_le (by rw [Hn.out]; exact Nat.le_refl _)] at HC4
            go_upto_region 13 with (fail)
            have k0 : wr.cell? ⟨g, 0, none⟩ = some (.chan (some c2)) := blk_at HG4.out 0 rfl
            have b0 : wr.cell? ⟨w.heap.size, 0, none⟩ = some (.int .i64 x.f0) := blk_at HB4.out 0 rfl
            have b1 : wr.cell? ⟨w.heap.size, 1, none⟩ = some (.string x.f1.f0) := blk_at HB4.out 1 rfl
            have b2 : wr.cell? ⟨w.heap.size, 2, none⟩ = some (.int .i64 x.f1.f1.f0) := blk_at HB4.out 2 rfl
            have b3 : wr.cell? ⟨w.heap.size, 3, none⟩ = some (.int .i64 x.f1.f1.f1) := blk_at HB4.out 3 rfl
            have b4 : wr.cell? ⟨w.heap.size, 4, none⟩ = some (.string x.f1.f1.f2) := blk_at HB4.out 4 rfl
            have b5 : wr.cell? ⟨w.heap.size, 5, none⟩ = some (.slice A5 x.f1.f1.f3.length c5) := blk_at HB4.out 5 rfl
            have b6 : wr.cell? ⟨w.heap.size, 6, none⟩ = some (.slice A6 x.f1.f2.length c6) := blk_at HB4.out 6 rfl
            refine sem_orders [[0, 1, 2, 3, 4, 5], [0, 1, 2, 4, 3, 5], [0, 1, 4, 2, 3, 5], [0, 4, 1, 2, 3, 5], [4, 0, 1, 2, 3, 5]] (by kernel_rfl) (by kernel_rfl) ?_
            refine List.forall_mem_cons.2 ⟨?_, List.forall_mem_cons.2 ⟨?_, List.forall_mem_cons.2 ⟨?_, List.forall_mem_cons.2 ⟨?_, List.forall_mem_cons.2 ⟨?_, fun _ h => by cases h⟩⟩⟩⟩⟩
            all_goals (
              refine sem_pure (v := ?_) rfl (by rfl) ?_ ?_
              rotate_left
              · go_simp
                with_reducible rfl
              refine sem_norm (a' := ?_) ?_ ?_
              rotate_left
              · simp only [Act.put, List.setIfInBounds_toArray, List.set_cons_zero, List.set_cons_succ]
                rfl
              refine sem_pure (v := ?_) rfl (by rfl) ?_ ?_
              rotate_left
              · go_simp
                with_reducible rfl
              refine sem_norm (a' := ?_) ?_ ?_
              rotate_left
              · simp only [Act.put, List.setIfInBounds_toArray, List.set_cons_zero, List.set_cons_succ]
                rfl
              refine sem_pure (v := ?_) rfl (by rfl) ?_ ?_
              rotate_left
              · go_simp
                with_reducible rfl
              refine sem_norm (a' := ?_) ?_ ?_
              rotate_left
              · simp only [Act.put, List.setIfInBounds_toArray, List.set_cons_zero, List.set_cons_succ]
                rfl
              refine sem_pure (v := ?_) rfl (by rfl) ?_ ?_
              rotate_left
              · go_simp
                with_reducible rfl
              refine sem_norm (a' := ?_) ?_ ?_
              rotate_left
              · simp only [Act.put, List.setIfInBounds_toArray, List.set_cons_zero, List.set_cons_succ]
                rfl
              refine sem_pure (v := ?_) rfl (by rfl) ?_ ?_
              rotate_left
              · go_simp
                with_reducible rfl
              refine sem_norm (a' := ?_) ?_ ?_
              rotate_left
              · simp only [Act.put, List.setIfInBounds_toArray, List.set_cons_zero, List.set_cons_succ]
                rfl
              refine sem_send (x := .agg #[.int .i64 x.f0, .string x.f1.f0, .int .i64 x.f1.f1.f0, .int .i64 x.f1.f1.f1, .string x.f1.f1.f2, .slice A5 x.f1.f1.f3.length c5, .slice A6 x.f1.f2.length c6]) (z := .tuple #[]) (c := c2) (cap := 2 * k + 4) (buf := bufOf l) (s := k) (r := 0) (tm := false) rfl (by rfl) ?_ HC4.out (by rw [bufOf_size, ← Hn.out]; omega) ?_
              · simp [go_sem, execOp, scase, Act.eval]
              rw [show (bufOf l).push (.agg #[.int .i64 x.f0, .string x.f1.f0, .int .i64 x.f1.f1.f0, .int .i64 x.f1.f1.f1, .string x.f1.f1.f2, .slice A5 x.f1.f1.f3.length c5, .slice A6 x.f1.f2.length c6]) = bufOf (l ++ [(x, [.int .i64 x.f0, .string x.f1.f0, .int .i64 x.f1.f1.f0, .int .i64 x.f1.f1.f1, .string x.f1.f1.f2, .slice A5 x.f1.f1.f3.length c5, .slice A6 x.f1.f2.length c6])]) from bufOf_push l (x, [.int .i64 x.f0, .string x.f1.f0, .int .i64 x.f1.f1.f0, .int .i64 x.f1.f1.f1, .string x.f1.f1.f2, .slice A5 x.f1.f1.f3.length c5, .slice A6 x.f1.f2.length c6])]
              refine sem_end ?_
              have HU6 : Upd (· = 1) own2 wr own2 (wr.drew.setChan c2 (2 * k + 4) (bufOf (l ++ [(x, [.int .i64 x.f0, .string x.f1.f0, .int .i64 x.f1.f1.f0, .int .i64 x.f1.f1.f1, .string x.f1.f1.f2, .slice A5 x.f1.f1.f3.length c5, .slice A6 x.f1.f2.length c6])])) false (k + 1) 0 false) := Upd.drew.then (Upd.chan (by show own2 c2 = 1; exact Ho2.out) ..)
              go_wp2_with (fail)
              go_end0
              refine ⟨rfl, own2, ⟨c2, 2 * k + 4, k + 1, 0, ⟨?_, chan_now wr.drew HC4.out, fun p hp => (HST3.out p hp).upd (by decide) (HU4.out.then HU6), ?_, Ho2.out⟩⟩, HU3.out.then (HU4.out.then HU6)⟩
              · exact (chan_far wr.drew (blk_chan_ne HG4.out HC4.out) ..).trans HG4.out
              · rw [Ho1.out g Hgw.out]; exact HH.out.og)
end Go.Proofs.Ytcbfddhdaamimaa.PLaneFifo
