/- The lane: its memory; drain. -/
import Derived.Test.YtcbfddhdaamimaaLA
namespace Go.Proofs.Ytcbfddhdaamimaa.PLaneFifo
open Go.RowKit Go.Conc Go.Proofs.YtcbfddhdaamimaaW.PrintWords Go.Proofs.YtcbfddhdaamimaaW.PrintLast
set_option linter.unusedVariables false
set_option linter.unusedSimpArgs false

/-- An item and the cells in which it is read. -/
abbrev Pr := S35 × List Value
def bufOf (l : List Pr) : Array Value := (l.map fun p => Value.agg p.2.toArray).toArray
theorem bufOf_size (l : List Pr) : (bufOf l).size = l.length := by simp [bufOf]
theorem bufOf_push (l : List Pr) (p : Pr) : (bufOf l).push (.agg p.2.toArray) = bufOf (l ++ [p]) := by simp [bufOf]
theorem bufOf_tail (p : Pr) (l : List Pr) : (bufOf (p :: l)).extract 1 (bufOf (p :: l)).size = bufOf l := by
  apply Array.ext'
  simp [bufOf, List.take_of_length_le]
theorem bufOf_head (p : Pr) (l : List Pr) : (bufOf (p :: l)).getD 0 undef = .agg p.2.toArray := by simp [bufOf]
theorem chan_now (w : World) {c : Nat} {cap : Nat} {buf : Array Value} {cl : Bool} {s r : Nat} {tm : Bool} {o : Obj} (h : w.heap[c]? = some o) : (w.setChan c cap buf cl s r tm).heap[c]? = some (.chan cap buf cl s r tm) :=
  heap_setChan w c cap buf cl s r tm (blk_lt h)
theorem chan_far (w : World) {c k : Nat} (h : k ≠ c) (cap : Nat) (buf : Array Value) (cl : Bool) (s r : Nat) (tm : Bool) : (w.setChan c cap buf cl s r tm).heap[k]? = w.heap[k]? := by
  simp only [World.setChan]
  rw [Array.getElem?_setIfInBounds_ne (fun e => h e.symm)]
theorem Only.chan {g : Nat} {a w : World} (h : Only g a w) (cap : Nat) (buf : Array Value) (cl : Bool) (s r : Nat) (tm : Bool) : Only g a (w.setChan g cap buf cl s r tm) :=
  ⟨h.os, h.tape, h.output, by simpa [World.setChan] using h.size, fun k hk hg => (chan_far w hg ..).trans (h.block k hk hg)⟩
theorem Only.grown {g : Nat} {a w w' : World} (h : Only g a w) {row : Option Nat} (hg : w.grownBy w' row) (hr : ∀ k, row = some k → a.heap.size ≤ k) : Only g a w' :=
  ⟨hg.os.trans h.os, hg.tape.trans h.tape, hg.output.trans h.output, Nat.le_trans h.size hg.size, fun k hk hne => (hg.block k (Nat.lt_of_lt_of_le hk h.size) (fun e => by have := hr k e.symm; omega)).trans (h.block k hk hne)⟩
theorem Only.of_below {g : Nat} {w w' : World} (h : Below w.heap.size w w') : Only g w w' := ⟨h.os, h.tape, h.output, h.size, fun k hk _ => h.block k hk⟩
/-- How many values wait in channel c. -/
def bufLen (w : World) (c : Nat) : Nat := match w.heap[c]? with
  | some (.chan _ buf _ _ _ _) => buf.size
  | _ => 0
theorem bufLen_eq {w : World} {c cap s r : Nat} {buf : Array Value} {cl tm : Bool} (h : w.heap[c]? = some (.chan cap buf cl s r tm)) : bufLen w c = buf.size := by simp [bufLen, h]

set_option maxRecDepth 100000 in
set_option maxHeartbeats 4000000 in
theorem drain31 (own : Nat → Nat) (w : World) (g c cap s r : Nat) (rc rm : Int) (sh : Bool) (l : List Pr) (hb : w.heap[g]? = some (.cells #[.chan (some c), .int .i64 rc, .int .i64 rm, .bool sh] 68 (0, 0)))
    (hc : w.heap[c]? = some (.chan cap (bufOf l) false s r false)) (hst : ∀ p ∈ l, St k35 own w p.1 p.2) (hl : l.length ≤ 1000000) :
    Calls Try.prog 31 #[.pointer (some ⟨g, 0, none⟩)] w fun e w' => ∃ v, e = .returned v ∧ Hid ((pk k35 own w).R 35 w' w.heap.size (fun _ => True) v l) ∧ Hid (Only c w w') ∧ ∃ s' r', Hid (w'.heap[c]? = some (.chan cap #[] true s' r' false)) := by
  have hne : g ≠ c := fun e => by subst e; rw [hb] at hc; cases hc
  have c0 : w.cell? ⟨g, 0, none⟩ = some (.chan (some c)) := blk_at hb 0 rfl
  have hcl : ∀ ats ty, (Builtin.close_ ats ty #[.chan (some c)]).run Try.prog w = .ok (.tuple #[]) (w.setChan c cap (bufOf l) true s r false) := fun ats ty => run_close_open (P := Try.prog) (w := w) ats ty hc
  have c1 : (w.setChan c cap (bufOf l) true s r false).cell? ⟨g, 0, none⟩ = some (.chan (some c)) := (World.cell?_of_block (chan_far w hne ..)).trans c0
  have HO : Hid (Only c w (w.setChan c cap (bufOf l) true s r false)) := (Only.refl c w).chan ..
  have HC : Hid ((w.setChan c cap (bufOf l) true s r false).heap[c]? = some (.chan cap (bufOf l) true s r false)) := chan_now w hc
  have HB := Lib.hid hb
  have HST := Lib.hid hst
  have HNE := Lib.hid hne
  have HCLT : Hid (c < w.heap.size) := Lib.hid (blk_lt hc)
  clear hc hb hst hne
  go_enter Try.func31, Try.ntmps31
  go_upto_region 3 with (fail)
  clear hcl
  generalize w.setChan c cap (bufOf l) true s r false = w1 at *
  go_wp2_with (fail)
  go_loopw [3] (fun v3 wr => ∃ pre rest s1 r1, l = pre ++ rest ∧ Hid ((pk k35 own w).R 35 wr w.heap.size (fun _ => True) v3 pre) ∧ Hid (Only c w wr) ∧ Hid (wr.heap[c]? = some (.chan cap (bufOf rest) true s1 r1 false))) (fun _ wr => bufLen wr c)
  case atStart => exact ⟨[], l, s, r, rfl, Kd.R_nil _ _ _ _ _, HO, HC⟩
  case round =>
    obtain ⟨pre, rest, s1, r1, hl2, HR, HO2, HC2⟩ := hrel
    clear HO HC c1
    have HL := Lib.hid hl2
    clear hl2
    obtain ⟨Ao, co, hv⟩ := Kd.R_slice HR.out
    subst hv
    go_upto_region 4 with (fail)
    refine sem_first ?_
    rcases rest with _ | ⟨p, rest⟩
    · refine sem_recv_shut (z := .agg #[.int .i64 0, .string ⟨#[]⟩, .int .i64 0, .int .i64 0, .string ⟨#[]⟩, .slice none 0 0, .slice none 0 0]) (c := c) (cap := cap) (s := s1) (r := r1) (tm := false) rfl (by rfl) ?_ HC2.out ?_
      · simp [go_sem, execOp, rcase, Act.eval, Try.zeroValue35]
      · refine sem_norm (a' := ?_) ?_ ?_
        rotate_left
        · simp only [Act.put, List.setIfInBounds_toArray, List.set_cons_zero, List.set_cons_succ]
          rfl
        refine sem_rest ?_
        go_wp2_with (fail)
        go_ret
        rw [List.append_nil] at HL
        refine ⟨_, rfl, ?_, HO2, s1, r1, HC2⟩
        rw [HL.out]
        exact HR
    · obtain ⟨x, cs⟩ := p
      have hx : St k35 own w x cs := HST.out (x, cs) (by rw [HL.out]; simp)
      obtain ⟨A5, c5, A6, c6, hcs, -⟩ := k35_open hx.now
      subst hcs
      have HX := Lib.hid hx
      clear hx
      have hlen : Hid (pre.length + 1 ≤ 1000000) := by
        have h1 := congrArg List.length HL.out
        rw [List.length_append, List.length_cons] at h1
        exact Lib.hid (by omega)
      have hsz : Hid (w.heap.size ≤ wr.heap.size) := Lib.hid HO2.out.size
      refine sem_recv (z := .agg #[.int .i64 0, .string ⟨#[]⟩, .int .i64 0, .int .i64 0, .string ⟨#[]⟩, .slice none 0 0, .slice none 0 0]) (c := c) (cap := cap) (s := s1) (r := r1) (tm := false) (closed := true) (buf := bufOf ((x, _) :: rest)) rfl (by rfl) ?_ HC2.out (by rw [bufOf_size]; simp) ?_
      · simp [go_sem, execOp, rcase, Act.eval, Try.zeroValue35]
      · rw [bufOf_head, bufOf_tail]
        refine sem_norm (a' := ?_) ?_ ?_
        rotate_left
        · simp only [Act.put, List.setIfInBounds_toArray, List.set_cons_zero, List.set_cons_succ]
          rfl
        refine sem_rest ?_
        have HC3 := Lib.hid (chan_now wr (cap := cap) (buf := bufOf rest) (cl := true) (s := s1) (r := r1 + 1) (tm := false) HC2.out)
        have HO3 := Lib.hid (HO2.out.chan cap (bufOf rest) true s1 (r1 + 1) false)
        have HR3 : Hid ((pk k35 own w).R 35 (wr.setChan c cap (bufOf rest) true s1 (r1 + 1) false) w.heap.size (fun _ => True) (.slice Ao pre.length co) pre) := Lib.hid (R_above HR.out (fun k hk _ => chan_far wr (by have := HCLT.out; omega) ..))
        have hsz3 : Hid (w.heap.size ≤ (wr.setChan c cap (bufOf rest) true s1 (r1 + 1) false).heap.size) := Lib.hid HO3.out.size
        generalize wr.setChan c cap (bufOf rest) true s1 (r1 + 1) false = w2 at *
        have HCm := HC2
        clear HR HO2 HC2 hsz
        go_upto_region 6 with (fail)
        have HB3 : Hid ((w2.alloc (.cells #[.int .i64 x.f0, .string x.f1.f0, .int .i64 x.f1.f1.f0, .int .i64 x.f1.f1.f1, .string x.f1.f1.f2, .slice A5 x.f1.f1.f3.length c5, .slice A6 x.f1.f2.length c6] 35)).heap[w2.heap.size]? = some (.cells #[.int .i64 x.f0, .string x.f1.f0, .int .i64 x.f1.f1.f0, .int .i64 x.f1.f1.f1, .string x.f1.f1.f2, .slice A5 x.f1.f1.f3.length c5, .slice A6 x.f1.f2.length c6] 35 (0, 0))) := blk_new _ _
        have HO4 := Lib.hid (HO3.out.alloc (.cells #[.int .i64 x.f0, .string x.f1.f0, .int .i64 x.f1.f1.f0, .int .i64 x.f1.f1.f1, .string x.f1.f1.f2, .slice A5 x.f1.f1.f3.length c5, .slice A6 x.f1.f2.length c6] 35))
        have HC4 := Lib.hid (blk_alloc HC3.out (.cells #[.int .i64 x.f0, .string x.f1.f0, .int .i64 x.f1.f1.f0, .int .i64 x.f1.f1.f1, .string x.f1.f1.f2, .slice A5 x.f1.f1.f3.length c5, .slice A6 x.f1.f2.length c6] 35))
        have HR4 := Lib.hid (Kd.R_alloc HR3.out (.cells #[.int .i64 x.f0, .string x.f1.f0, .int .i64 x.f1.f1.f0, .int .i64 x.f1.f1.f1, .string x.f1.f1.f2, .slice A5 x.f1.f1.f3.length c5, .slice A6 x.f1.f2.length c6] 35))
        generalize w2.alloc (.cells #[.int .i64 x.f0, .string x.f1.f0, .int .i64 x.f1.f1.f0, .int .i64 x.f1.f1.f1, .string x.f1.f1.f2, .slice A5 x.f1.f1.f3.length c5, .slice A6 x.f1.f2.length c6] 35) = w3 at *
        have e0 : w3.cell? ⟨w2.heap.size, 0, none⟩ = some (.int .i64 x.f0) := blk_at HB3.out 0 rfl
        have e1 : w3.cell? ⟨w2.heap.size, 1, none⟩ = some (.string x.f1.f0) := blk_at HB3.out 1 rfl
        have e2 : w3.cell? ⟨w2.heap.size, 2, none⟩ = some (.int .i64 x.f1.f1.f0) := blk_at HB3.out 2 rfl
        have e3 : w3.cell? ⟨w2.heap.size, 3, none⟩ = some (.int .i64 x.f1.f1.f1) := blk_at HB3.out 3 rfl
        have e4 : w3.cell? ⟨w2.heap.size, 4, none⟩ = some (.string x.f1.f1.f2) := blk_at HB3.out 4 rfl
        have e5 : w3.cell? ⟨w2.heap.size, 5, none⟩ = some (.slice A5 x.f1.f1.f3.length c5) := blk_at HB3.out 5 rfl
        have e6 : w3.cell? ⟨w2.heap.size, 6, none⟩ = some (.slice A6 x.f1.f2.length c6) := blk_at HB3.out 6 rfl
        clear HO3 HC3
        go_wp2_with (at_builtin; refine Kd.R_append (pk k35 own w) (w0 := w3) w.heap.size rfl (.tmp 16) (.tmp 18) 22 35 (.agg #[.int .i64 0, .string ⟨#[]⟩, .int .i64 0, .int .i64 0, .string ⟨#[]⟩, .slice none 0 0, .slice none 0 0]) 104 rfl Try.underlying22 info35 rfl (show 0 < 7 by decide) (by decide) (.slice Ao pre.length co) pre (x, [.int .i64 x.f0, .string x.f1.f0, .int .i64 x.f1.f1.f0, .int .i64 x.f1.f1.f1, .string x.f1.f1.f2, .slice A5 x.f1.f1.f3.length c5, .slice A6 x.f1.f2.length c6]) _ (fun _ => True) (fun k_ => True ∧ some k_ ≠ (Value.slice Ao pre.length co).ownBlock) rfl rfl ?hp (fun _ hk => hk) (fun _ _ => trivial) HR4.out (Below.refl _ _) ?hS ?hl ?_
                     case hp => exact ⟨rfl, HX.out⟩
                     case hS => exact HO4.out.size
                     case hl => have := hlen.out; omega
                     intro v1 w4 O4 B4 hg4 hat4
                     have HR5 := Lib.hid O4
                     have HO5 := Lib.hid (HO4.out.grown hg4 (fun k hk => Kd.R_base HR4.out k hk))
                     have HC5 := Lib.hid (blk_grown HC4.out hg4 (fun e => by have := Kd.R_base HR4.out c e.symm; have := HCLT.out; omega))
                     clear O4 B4 hg4 hat4)
        go_roundw
        case rel => exact ⟨pre ++ [(x, _)], rest, s1, r1 + 1, by rw [HL.out]; simp, HR5, HO5, HC5⟩
        case measure => rw [bufLen_eq HC5.out, bufLen_eq HCm.out, bufOf_size, bufOf_size, List.length_cons]; omega
end Go.Proofs.Ytcbfddhdaamimaa.PLaneFifo
