/- Refill. -/
import Derived.Test.YtcbfddhdaamimaaLH
namespace Go.Proofs.Ytcbfddhdaamimaa.PLaneFifo
open Go.RowKit Go.Conc Go.Proofs.YtcbfddhdaamimaaW.PrintWords Go.Proofs.YtcbfddhdaamimaaW.PrintLast
set_option linter.unusedVariables false
set_option linter.unusedSimpArgs false

theorem pairs_of_R' {α : Type} {d : Kd α} (z : α) {own : Nat → Nat} {w : World} {e base : Nat} {ok : Nat → Prop} {v : Value} {xs : List α} (h : d.R e w base ok v xs) (ho : ∀ k, ok k → base ≤ k → some k ≠ v.ownBlock → own k = 0) : ∃ l : List (α × List Value), l.map (·.1) = xs ∧ (pk d own w).R e w base ok v l := by
  obtain ⟨h0, inner, how, hr⟩ := h
  refine ⟨(List.range xs.length).map (fun j => (xs.getD j z, (inner.drop (j * d.sz)).take d.sz)), ?_, h0, inner, ?_, ?_, ?_⟩
  · rw [List.map_map]
    apply List.ext_getElem
    · simp
    · intro i h1 h2
      simp only [List.getElem_map, List.getElem_range, Function.comp]
      rw [List.getD_eq_getElem?_getD, List.getElem?_eq_getElem h2, Option.getD_some]
  · rw [List.length_map, List.length_range]; exact how
  · rw [List.length_map, List.length_range]; exact hr.1
  · intro j p hj
    rw [List.getElem?_map] at hj
    cases hq : (List.range xs.length)[j]? with
    | none => rw [hq] at hj; cases hj
    | some q =>
      rw [hq] at hj
      obtain rfl := Option.some.inj hj
      obtain ⟨hlt, hqe⟩ := List.getElem?_eq_some_iff.1 hq
      rw [List.getElem_range] at hqe
      subst hqe
      rw [List.length_range] at hlt
      refine ⟨rfl, St.made (base := base) (d.M_mono (fun k hk => ho k hk.1.1 hk.2.1 hk.1.2) (d.M_bound (hr.2 j _ ?_)))⟩
      rw [List.getElem?_eq_getElem hlt]
      simp [List.getD_eq_getElem?_getD, List.getElem?_eq_getElem hlt]
theorem StC_re {α : Type} {d : Kd α} {own0 own own' : Nat → Nat} {w0 w w' : World} {A : Option Addr} {n : Nat} {S : Nat → Prop} {l : List (α × List Value)} (h : StC (pk d own0 w0) own w A n l) (hS : ¬ S 0) (hu : Upd S own0 w0 own' w') : StC (pk d own' w') own w A n l := fun S2 o2 w2 h2 hu2 => pk_C (h S2 o2 w2 h2 hu2) hS hu
theorem R_only {α : Type} {d : Kd α} {e base : Nat} {ok : Nat → Prop} {w w' : World} {v : Value} {xs : List α} (h : d.R e w base ok v xs) {c cap s r : Nat} {buf : Array Value} {cl tm : Bool} (hc : w.heap[c]? = some (.chan cap buf cl s r tm)) (ho : Only c w w') : d.R e w' base ok v xs :=
  Kd.R_mono (Kd.R_move (Kd.R_bound h) (fun k hk => by obtain ⟨_, _, hlt, q, _, cells, hcells⟩ := hk; exact ho.block k hlt (blk_chan_ne hcells hc))) (fun _ hk => hk.1)
def item0 (r : S33) : S35 := ⟨0, r⟩
theorem cop_item0 (r : S33) : cop (item0 r) = item0 r := by unfold cop item0; rw [if_neg (show ¬ (0 : Int) < 0 by decide)]
def RefillAns (own : Nat → Nat) (w : World) (g : Nat) (rm : Int) (l : List Pr) (rs : List S33) (e : Ending) (w' : World) : Prop := ∃ l1, l1.map (·.1) = rs.map item0 ∧ e = .returned (.int .i64 0) ∧ LaneTo own w g rm false (l1 ++ l) w'
theorem refill16_shut (own : Nat → Nat) (w : World) (g c cap s r : Nat) (rm : Int) (l : List Pr) (h : LaneAt own w g rm true l c cap s r) (v : Value) :
    Calls Try.prog 16 #[.pointer (some ⟨g, 0, none⟩), v] w fun e w' => e = .returned (.int .i64 53) ∧ w = w' := by
  have q3 : w.cell? ⟨g, 3, none⟩ = some (.bool true) := blk_at h.hb 3 rfl
  clear h
  go_enter Try.func16, Try.ntmps16
  go_wp2_with (fail)
  go_ret
  exact ⟨rfl, rfl⟩
set_option maxRecDepth 100000 in
set_option maxHeartbeats 8000000 in
theorem refill16 (own : Nat → Nat) (w : World) (g c cap s r : Nat) (rm : Int) (l : List Pr) (h : LaneAt own w g rm false l c cap s r) (rs : List S33) (A : Option Addr) (cc : Nat) (hC : Kd.C k33 w A rs.length rs) (hl : l.length + rs.length ≤ 800000) (hp : ∀ y ∈ rs, partsR y ≤ 100000) :
    Calls Try.prog 16 #[.pointer (some ⟨g, 0, none⟩), .slice A rs.length cc] w fun e w' => RefillAns own w g rm l rs e w' := by
  obtain ⟨n, hn⟩ : ∃ n, n = rs.length := ⟨_, rfl⟩
  have Hn := Lib.hid hn
  have HC := Lib.hid hC
  have HH := Lib.hid h
  have HP := Lib.hid hp
  have Hl := Lib.hid hl
  have hn9 : n ≤ 900000 := by omega
  have q3 : w.cell? ⟨g, 3, none⟩ = some (.bool false) := blk_at h.hb 3 rfl
  rw [← hn]
  clear hC h hp hl hn
  go_enter Try.func16, Try.ntmps16
  go_wp2_with (fail)
  go_loopw [5, 14] (fun v5 v14 wr => ∃ k, k ≤ n ∧ v14 = .int .i64 (k : Nat) ∧ Hid (Kd.R k35 35 wr w.heap.size (fun _ => True) v5 ((rs.take k).map item0)) ∧ Hid (Below w.heap.size w wr)) (fun _ v14 _ => n - (intOf v14).toNat)
  case atStart => exact ⟨0, Nat.zero_le _, rfl, Kd.R_nil _ _ _ _ _, Below.refl _ _⟩
  case round =>
    obtain ⟨k, hk, rfl, HO, HB⟩ := hrel
    have hkl : ((rs.take k).map item0).length = k := by rw [List.length_map, List.length_take, ← Hn.out]; omega
    obtain ⟨Au, cu, hv⟩ := Kd.R_slice HO.out
    rw [hkl] at hv
    subst hv
    have Hkl := Lib.hid hkl
    clear hkl q3
    by_cases hlt : k < n
    · obtain ⟨ad, B5, d5, B6, d6, rfl, a0, a1, a2, a3, a4, a5, hl5, hC5, hl6, hC6⟩ := at_T33 HC.out (k : Int) (by omega) (by rw [← Hn.out]; omega)
      have hmem : rd_T33 rs (k : Int) ∈ rs := getD_mem _ _ _ (by rw [Int.toNat_natCast, ← Hn.out]; exact hlt)
      have htk : (rs.take (k + 1)).map item0 = (rs.take k).map item0 ++ [item0 (rd_T33 rs (k : Int))] := by
        rw [take_getD _ z33 _ (by rw [← Hn.out]; exact hlt), List.map_append]
        unfold rd_T33
        rw [Int.toNat_natCast]
        rfl
      generalize rd_T33 rs (k : Int) = y at *
      rw [Int.toNat_natCast] at a0 a1 a2 a3 a4 a5
      replace a0 := pw_cell_below HB.out a0
      replace a1 := pw_cell_below HB.out a1
      replace a2 := pw_cell_below HB.out a2
      replace a3 := pw_cell_below HB.out a3
      replace a4 := pw_cell_below HB.out a4
      replace a5 := pw_cell_below HB.out a5
      have Htk := Lib.hid htk
      have Hpy := Lib.hid (HP.out y hmem)
      have HY : Hid (∀ W : World, PLift (Below wr.heap.size wr W) → Calls Try.prog 27 #[.agg #[.int .i64 0, .string y.f0, .int .i64 y.f1.f0, .int .i64 y.f1.f1, .string y.f1.f2, .slice B5 y.f1.f3.length d5, .slice B6 y.f2.length d6]] W fun e w' => ∃ v5 v6, e = .returned (.agg #[.int .i64 0, .string y.f0, .int .i64 y.f1.f0, .int .i64 y.f1.f1, .string y.f1.f2, v5, v6]) ∧ Hid (Kd.R k30 30 w' W.heap.size (fun _ => True) v5 y.f1.f3) ∧ Hid (Kd.R (Kd.int .i64) 3 w' W.heap.size (fun _ => True) v6 y.f2) ∧ Hid (Below W.heap.size W w')) := Lib.hid (fun W hW => copied27_rec (item0 y) B5 d5 B6 d6 W (Kd.C_below (Kd.C_below hC5 HB.out) hW.down) hl5 (Kd.C_below (Kd.C_below hC6 HB.out) hW.down) hl6 Hpy.out (show ¬ (0 : Int) < 0 by decide))
      have Hsz := Lib.hid (show w.heap.size ≤ wr.heap.size from HB.out.size)
      clear hmem htk hC5 hC6 hl5 hl6
      go_wp2_with (first
        | (go_at_call 27; refine (HY.out _ ⟨(Below.refl _ _).alloc (Nat.le_refl _) _⟩).mono ?_; rintro e w4 ⟨v5, v6, rfl, hv5, hv6, hb⟩)
        | (at_builtin; refine Kd.R_append k35 (w0 := w) w.heap.size rfl (.tmp 18) (.tmp 22) 22 35 (.agg #[.int .i64 0, .string ⟨#[]⟩, .int .i64 0, .int .i64 0, .string ⟨#[]⟩, .slice none 0 0, .slice none 0 0]) 104 rfl Try.underlying22 info35 rfl (by decide) (by decide) (.slice Au k cu) ((rs.take k).map item0) (item0 y) _ (fun _ => True) (fun k_ => True ∧ some k_ ≠ (Value.slice Au k cu).ownBlock) rfl rfl ?hp (fun _ hk => hk) (fun _ _ => trivial) ?hO ?hB ?hS ?hl ?_
           case hp => exact k35_mkM _ _ _ (item0 y) (Kd.R_lower (Kd.R_new' hv5.out (fun i hi => by have := Kd.R_lt HO.out i hi; simp only [World.size_alloc]; omega)) (by simp only [World.size_alloc]; have := Hsz.out; omega)) (Kd.R_lower (Kd.R_new' hv6.out (fun i hi => by have := Kd.R_lt HO.out i hi; simp only [World.size_alloc]; omega)) (by simp only [World.size_alloc]; have := Hsz.out; omega))
           case hO => exact Kd.R_below (Kd.R_alloc HO.out _) hb.out
           case hB => exact (HB.out.alloc HB.out.size _).trans (hb.out.mono (by simp only [World.size_alloc]; have := Hsz.out; omega))
           case hS => have h1 := hb.out.size; have := Hsz.out; simp only [World.size_alloc] at h1; omega
           case hl => rw [Hkl.out]; omega
           intro v1 w5 HO2 HB2 hg hat
           have HO2' := Lib.hid HO2
           have HB2' := Lib.hid HB2
           clear HO2 HB2 hg hat))
      go_roundw
      case rel =>
        refine ⟨k + 1, by omega, by go_num, ?_, HB2'⟩
        rw [Htk.out]; exact HO2'
      case measure => simp [intOf]; omega
    · obtain rfl : k = n := by omega
      rw [List.take_of_length_le (by rw [Hn.out]; exact Nat.le_refl _)] at HO Hkl
      -- the records' copies, with their cells; the row itself may still be written
      obtain ⟨own2, hown2⟩ : ∃ own2 : Nat → Nat, own2 = fun i => if i < w.heap.size then own i else if some i = (Value.slice Au k cu).ownBlock then 2 else 0 := ⟨_, rfl⟩
      obtain ⟨l1, hl1, hR1⟩ := pairs_of_R' z35 (own := own2) HO.out (fun i _ hi hne => by rw [hown2]; simp only []; rw [if_neg (by omega), if_neg hne])
      have hk1 : l1.length = k := by rw [← List.length_map (f := (·.1)), hl1]; exact Hkl.out
      have Hu2 : Hid (Upd (fun _ => False) own w own2 wr) := Lib.hid (Upd.of_below' HB.out (fun i hi => by rw [hown2]; exact if_pos hi))
      have HL2 := Lib.hid (HH.out.upd (by decide) (by decide) Hu2.out)
      have Hown := Lib.hid hown2
      have HR1 := Lib.hid hR1
      have Hl1 := Lib.hid hl1
      have Hk1 := Lib.hid hk1
      have HD := Lib.hid (drain31 own2 wr g c cap s r _ rm false l HL2.out.hb HL2.out.hc HL2.out.st (by have := Hl.out; omega))
      have Hl8 := Lib.hid (show k + l.length ≤ 800000 by have h1 := Hl.out; have h2 := Hn.out; omega)
      clear hown2 hR1 hl1 hk1
      go_upto_region 10 with (first
        | (go_at_call 31; refine HD.out.mono ?_; rintro e w2 ⟨v, rfl, hR, hO, s2, r2, hC2⟩; obtain ⟨Ao, co, rfl⟩ := Kd.R_slice hR.out
           have HG2 : Hid (w2.heap[g]? = _) := Lib.hid ((hO.out.block g (blk_lt HL2.out.hb) (blk_chan_ne HL2.out.hb HL2.out.hc)).trans HL2.out.hb)
           have hu : Upd (· = 1) own2 wr own2 w2 := Upd.of_only hO.out HL2.out.oc
           have HRa := Lib.hid (pk_R (R_only HR1.out HL2.out.hc hO.out) (S := (· = 1)) (by decide) hu)
           have HRb := Lib.hid (pk_R hR.out (S := (· = 1)) (by decide) hu)
           have HU2 := Lib.hid hu
           have Hw2 := Lib.hid (show wr.heap.size ≤ w2.heap.size from hO.out.size)
           clear hR hO hC2 hu)
        | (at_builtin; refine Kd.R_append_rows (pk k35 own2 w2) (Rr := (pk k35 own2 w2).K w2) (w0 := w2) w.heap.size rfl (.tmp 26) (.tmp 28) 22 35 (.agg #[.int .i64 0, .string ⟨#[]⟩, .int .i64 0, .int .i64 0, .string ⟨#[]⟩, .slice none 0 0, .slice none 0 0]) 104 rfl Try.underlying22 info35 rfl (show 0 < 7 by decide) (by decide) (.slice Au k cu) l1 l Ao l.length co (fun _ => True) (fun _ => False) rfl rfl HRa.out ?hR (fun _ _ h => h) (fun _ h => h.elim) (fun _ _ => trivial) (Below.refl _ _) ?hS ?hl ?_
           case hR => exact (Kd.R_reads' HRb.out).2.2
           case hS => have h1 := HB.out.size; have h2 := Hw2.out; omega
           case hl => have h1 := Hk1.out; have h2 := Hl8.out; omega
           intro v1 w3 O3 B3 hg3 hat3
           obtain ⟨nn, hnn⟩ : ∃ nn, nn = (l1 ++ l).length := ⟨_, rfl⟩
           obtain ⟨A3, c3, hv3⟩ := Kd.R_slice O3
           rw [← hnn] at hv3
           subst hv3
           have hb0 : ∀ i, (Value.slice Au k cu).ownBlock = some i → w.heap.size ≤ i := fun i hi => Kd.R_base HRa.out i hi
           have HU3 : Hid (Upd (· = 2) own2 w2 (fresh own w 0) w3) := Lib.hid ⟨hg3.os, hg3.tape, hg3.output, hg3.size, (fun i hi ho => by
             rw [Hown.out] at ho ⊢
             unfold fresh
             simp only [] at ho ⊢
             by_cases h1 : i < w.heap.size
             · rw [if_pos h1, if_pos h1]
             · rw [if_neg h1] at ho ⊢
               rw [if_neg h1]
               by_cases h2 : some i = (Value.slice Au k cu).ownBlock
               · rw [if_pos h2] at ho; exact absurd rfl ho
               · rw [if_neg h2]), fun i hi ho => hg3.block i hi (fun he => ho (by
                 rw [Hown.out]
                 simp only []
                 rw [if_neg (by have := hb0 i he.symm; omega), if_pos he]))⟩
           have HG3 : Hid (w3.heap[g]? = _) := Lib.hid (blk_grown HG2.out hg3 (fun he => by have h1 := hb0 g he.symm; have h2 := blk_lt HH.out.hb; omega))
           have HR3 := Lib.hid (pk_R O3 (S := (· = 2)) (by decide) HU3.out)
           have hf := (fill28 (fresh own w 0) w3 g _ _ rm HG3.out ((fresh_old (blk_lt HH.out.hb)).trans HH.out.og) (l1 ++ l) A3 c3 (by rw [← hnn]; exact StC.made (Kd.R_mono (Kd.R_bound HR3.out) (fun i hi => fresh_new hi.2.1))) (by rw [List.length_append]; have h1 := Hk1.out; have h2 := Hl8.out; omega))
           rw [← hnn] at hf
           have HF := Lib.hid hf
           have HUa : Hid (Upd (· = 1) own w (fresh own w 0) w3) := Lib.hid (by
             have h1 := (Hu2.out.mono (S' := (· = 1)) (fun _ h => h.elim)).then HU2.out
             refine ⟨hg3.os.trans h1.os, hg3.tape.trans h1.tape, hg3.output.trans h1.output, Nat.le_trans h1.size hg3.size, fun i hi _ => fresh_old hi, fun i hi ho => (hg3.block i (Nat.lt_of_lt_of_le hi h1.size) (fun he => by have := hb0 i he.symm; omega)).trans (h1.block i hi ho)⟩)
           clear O3 B3 hg3 hat3 hb0 hf hnn)
        | (go_at_call 28; refine HF.out.mono ?_; rintro e w4 ⟨rfl, own4, c4, cap4, s4, r4, HL4, HU4⟩))
      go_wp2_with (fail)
      go_ret
      exact ⟨l1, by rw [Hl1.out], rfl, own4, c4, cap4, s4, r4, HL4.out, HUa.out.then HU4.out⟩
end Go.Proofs.Ytcbfddhdaamimaa.PLaneFifo
