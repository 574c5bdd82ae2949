/- sound and without, walked. -/
import Derived.Test.YtpplnhefpcofoaaWB
import Derived.Test.YtpplnhefpcofoaaPH
namespace Go.Proofs.Ytpplnhefpcofoaa.PDeltaJoin
open Go.RowKit Go.Proofs.YtpplnhefpcofoaaW.PrintWords Go.Proofs.YtpplnhefpcofoaaW.PrintLast
set_option linter.unusedVariables false
set_option linter.unusedSimpArgs false

/-- A state, answered; its cells are read in the elder world. -/
def SR (z : S24) (w0 w : World) (e : Ending) (w' : World) : Prop :=
  ∃ A c, e = .returned (.agg #[.int .i64 z.f0, .slice A z.f1.length c]) ∧ Hid (Kd.C k63 w0 A z.f1.length z.f1) ∧ Hid (Below w.heap.size w w') ∧ Hid (z.f1.length ≤ c)
/-- A delta, answered. -/
def DR (z : S27) (w : World) (e : Ending) (w' : World) : Prop :=
  ∃ A c B k, e = .returned (.agg #[.int .i64 z.f0, .slice A z.f1.length c, .slice B z.f2.length k]) ∧ Hid (Kd.C k63 w' A z.f1.length z.f1) ∧ Hid (Kd.C Kd.string w' B z.f2.length z.f2) ∧ Hid (Below w.heap.size w w') ∧ Hid (z.f1.length ≤ c ∧ z.f2.length ≤ k)
def soundS (s : S24) : S24 := if chkS s.f0 s.f1 = 0 then s else ⟨0, []⟩
theorem soundS_fit (s : S24) : FitS (soundS s) := by
  unfold soundS FitS
  by_cases h : chkS s.f0 s.f1 = 0
  · rw [if_pos h]; exact h
  · rw [if_neg h]; exact chk_nil 0 (by omega) (by omega)
set_option maxRecDepth 100000 in
set_option maxHeartbeats 16000000 in
theorem sound25 (s : S24) (A : Option Addr) (c : Nat) (w0 w : World) (hC : Kd.C k63 w0 A s.f1.length s.f1) (hc : s.f1.length ≤ c) (hW : Below w0.heap.size w0 w) :
    Calls Try.prog 25 #[.agg #[.int .i64 s.f0, .slice A s.f1.length c]] w fun e w' => SR (soundS s) w0 w e w' := by
  have HT : Hid (∀ W, Below w.heap.size w W → Calls Try.prog 34 #[.agg #[.int .i64 s.f0, .slice A s.f1.length c]] W fun e w' => e = .returned (.int .i64 (chkS s.f0 s.f1)) ∧ Hid (Below W.heap.size W w')) := Lib.hid (fun W h => checkState34 s.f0 s.f1 A c W (Kd.C_below hC (hW.trans (h.mono hW.size))))
  have HC := Lib.hid hC
  have HL := Lib.hid hc
  obtain ⟨n, hn⟩ : ∃ n, n = s.f1.length := ⟨_, rfl⟩
  have Hn := Lib.hid hn
  obtain ⟨r, hr⟩ : ∃ r, r = chkS s.f0 s.f1 := ⟨_, rfl⟩
  have Hr := Lib.hid hr
  rw [← hn, ← hr] at HT
  rw [← hn]
  clear hC hc hn hr hW
  have H0 : Hid (((w.alloc (.cells #[.int .i64 s.f0, .slice A n c] 24)).alloc (.cells #[.int .i64 0, .slice none 0 0] 24)).heap[w.heap.size]? = some (.cells #[.int .i64 s.f0, .slice A n c] 24 (0, 0))) := Lib.hid (blk_alloc (blk_new w _) _)
  have H1 : Hid (((w.alloc (.cells #[.int .i64 s.f0, .slice A n c] 24)).alloc (.cells #[.int .i64 0, .slice none 0 0] 24)).heap[w.heap.size + 1]? = some (.cells #[.int .i64 0, .slice none 0 0] 24 (0, 0))) := Lib.hid (by
    have := blk_new (w.alloc (.cells #[.int .i64 s.f0, .slice A n c] 24)) (.cells #[.int .i64 0, .slice none 0 0] 24)
    rw [World.size_alloc] at this
    exact this)
  have HB : Hid (Below w.heap.size w ((w.alloc (.cells #[.int .i64 s.f0, .slice A n c] 24)).alloc (.cells #[.int .i64 0, .slice none 0 0] 24))) := Lib.hid (((Below.refl _ w).alloc (Nat.le_refl _) _).alloc (by simp) _)
  go_enter Try.func25, Try.ntmps25
  go_upto_region 1 with (fail)
  generalize ((w.alloc (.cells #[.int .i64 s.f0, .slice A n c] 24)).alloc (.cells #[.int .i64 0, .slice none 0 0] 24)) = wa at *
  obtain ⟨g, hg⟩ : ∃ g, g = w.heap.size := ⟨_, rfl⟩
  rw [← hg] at H0 H1 ⊢
  have HG := Lib.hid hg
  clear hg
  have a0 : wa.cell? ⟨g, 0, none⟩ = some (.int .i64 s.f0) := blk_at H0.out 0 rfl
  have a1 : wa.cell? ⟨g, 1, none⟩ = some (.slice A n c) := blk_at H0.out 1 rfl
  by_cases hk : r = 0
  · subst hk
    go_wp2_with (go_at_call 34; refine (HT.out wa HB.out).mono ?_; rintro e w1 ⟨rfl, hb1⟩
                 have HB1 : Hid (Below w.heap.size w w1) := HB.out.trans (hb1.out.mono HB.out.size)
                 have N0 := Lib.hid (blk_below H0.out hb1.out)
                 have N1 := Lib.hid (blk_below H1.out hb1.out)
                 have n0 : w1.cell? ⟨g, 0, none⟩ = some (.int .i64 s.f0) := blk_at N0.out 0 rfl
                 have n1 : w1.cell? ⟨g, 1, none⟩ = some (.slice A n c) := blk_at N0.out 1 rfl
                 have z0 : w1.cell? ⟨(g + 1), 0, none⟩ = some (.int .i64 0) := blk_at N1.out 0 rfl
                 have y0 : w1.frozen? ⟨(g + 1), 0, none⟩ = false := blk_frozen N1.out 0
                 have z1 : w1.cell? ⟨(g + 1), 1, none⟩ = some (.slice none 0 0) := blk_at N1.out 1 rfl
                 have y1 : w1.frozen? ⟨(g + 1), 1, none⟩ = false := blk_frozen N1.out 1
                 clear hb1 a0 a1)
    have hb4 : ((w1.setCell ⟨(g + 1), 0, none⟩ (.int .i64 s.f0)).setCell ⟨(g + 1), 1, none⟩ (.slice A n c)).heap[g + 1]? = some (.cells #[.int .i64 s.f0, .slice A n c] 24 (0, 0)) := blk_put (blk_put N1.out 0 _ rfl) 1 _ rfl
    have hb5 : Below w.heap.size w ((w1.setCell ⟨(g + 1), 0, none⟩ (.int .i64 s.f0)).setCell ⟨(g + 1), 1, none⟩ (.slice A n c)) := (HB1.out.setCell (show w.heap.size ≤ g + 1 by rw [← HG.out]; exact Nat.le_succ _) _).setCell (show w.heap.size ≤ g + 1 by rw [← HG.out]; exact Nat.le_succ _) _
    refine bodyPost_ret (results_cell_row rfl _ _ (g + 1) 24 #[.int .i64 s.f0, .slice A n c] (0, 0) _ rfl hb4 Try.underlying24 rfl (by kernel_rfl)) rfl ?_
    have e1 : soundS s = s := if_pos Hr.out.symm
    rw [e1]
    exact ⟨A, c, by rw [Hn.out], HC, Lib.hid hb5, HL⟩
  · have k1 : (r == 0) = false := beq_false_of_ne hk
    have k2 : (r != 0) = true := by simp [hk]
    go_wp2_with (go_at_call 34; refine (HT.out wa HB.out).mono ?_; rintro e w1 ⟨rfl, hb1⟩
                 have HB1 : Hid (Below w.heap.size w w1) := HB.out.trans (hb1.out.mono HB.out.size)
                 have N1 := Lib.hid (blk_below H1.out hb1.out)
                 have z0 : w1.cell? ⟨(g + 1), 0, none⟩ = some (.int .i64 0) := blk_at N1.out 0 rfl
                 have y0 : w1.frozen? ⟨(g + 1), 0, none⟩ = false := blk_frozen N1.out 0
                 have z1 : w1.cell? ⟨(g + 1), 1, none⟩ = some (.slice none 0 0) := blk_at N1.out 1 rfl
                 have y1 : w1.frozen? ⟨(g + 1), 1, none⟩ = false := blk_frozen N1.out 1
                 clear hb1 a0 a1)
    have hb4 : ((w1.setCell ⟨(g + 1), 0, none⟩ (.int .i64 0)).setCell ⟨(g + 1), 1, none⟩ (.slice none 0 0)).heap[g + 1]? = some (.cells #[.int .i64 0, .slice none 0 0] 24 (0, 0)) := blk_put (blk_put N1.out 0 _ rfl) 1 _ rfl
    have hb5 : Below w.heap.size w ((w1.setCell ⟨(g + 1), 0, none⟩ (.int .i64 0)).setCell ⟨(g + 1), 1, none⟩ (.slice none 0 0)) := (HB1.out.setCell (show w.heap.size ≤ g + 1 by rw [← HG.out]; exact Nat.le_succ _) _).setCell (show w.heap.size ≤ g + 1 by rw [← HG.out]; exact Nat.le_succ _) _
    refine bodyPost_ret (results_cell_row rfl _ _ (g + 1) 24 #[.int .i64 0, .slice none 0 0] (0, 0) _ rfl hb4 Try.underlying24 rfl (by kernel_rfl)) rfl ?_
    have e1 : soundS s = ⟨0, []⟩ := if_neg (fun h => hk (Hr.out.trans h))
    rw [e1]
    exact ⟨none, 0, rfl, Lib.hid (Kd.C_nil _ _), Lib.hid hb5, Lib.hid (Nat.le_refl _)⟩
theorem R_sliced {α : Type} {d : Kd α} {e base : Nat} {w : World} {ok : Nat → Prop} {v : Value} {xs : List α} (h : Kd.R d e w base ok v xs) : ∃ A m c, v = .slice A m c := by
  obtain ⟨A, c, he⟩ := Kd.R_slice h
  exact ⟨A, _, c, he⟩
theorem erase_take {α : Type} (l : List α) (i k : Nat) (z : α) (h : k < l.length) : (l.take (k + 1)).eraseIdx i = if k = i then (l.take k).eraseIdx i else (l.take k).eraseIdx i ++ [l.getD k z] := by
  have e : l.getD k z = l[k] := by simp [List.getD_eq_getElem?_getD, List.getElem?_eq_getElem h]
  have hl : (l.take k).length = k := by rw [List.length_take]; omega
  have e2 : l.take (k + 1) = l.take k ++ [l[k]] := (List.take_append_getElem h).symm
  rw [e, e2]
  generalize l.take k = t at *
  generalize l[k] = x at *
  subst hl
  by_cases hk : t.length = i
  · rw [if_pos hk, List.eraseIdx_append_of_length_le (by omega), List.eraseIdx_of_length_le (l := t) (by omega), hk, Nat.sub_self, List.eraseIdx_cons_zero, List.append_nil]
  · rw [if_neg hk]
    by_cases hlt : t.length < i
    · rw [List.eraseIdx_of_length_le (by rw [List.length_append, List.length_singleton]; omega), List.eraseIdx_of_length_le (by omega)]
    · rw [List.eraseIdx_append_of_lt_length (by omega)]
theorem fixed63 {w w' : World} {base : Nat} {ok : Nat → Prop} {v : Value} {xs : List S63} (h : Kd.R (Kd.fixed k63 w) 63 w' base ok v xs) (hb : Below w.heap.size w w') : ∃ A c, v = .slice A xs.length c ∧ xs.length ≤ c ∧ Kd.C k63 w' A xs.length xs := by
  obtain ⟨A, c, h1, h2, h3⟩ := Kd.R_reads h
  exact ⟨A, c, h1, h2, Kd.C_read (d := k63) (dm := Kd.fixed k63 w) rfl (fun x cs hk => k63.K_below hb hk) h3⟩
def goneW (m i : Nat) (l : List ByteArray) : List ByteArray := if i < m then l else l.eraseIdx (i - m)
theorem goneW_take (m i : Nat) (l : List ByteArray) (k : Nat) (h : k < l.length) : goneW m i (l.take (k + 1)) = if m + k = i then goneW m i (l.take k) else goneW m i (l.take k) ++ [l.getD k ⟨#[]⟩] := by
  unfold goneW
  by_cases hi : i < m
  · rw [if_pos hi, if_pos hi, if_neg (by omega)]
    have e : l.getD k ⟨#[]⟩ = l[k] := by simp [List.getD_eq_getElem?_getD, List.getElem?_eq_getElem h]
    rw [e, ← List.take_append_getElem h]
  · rw [if_neg hi, if_neg hi, erase_take l (i - m) k ⟨#[]⟩ h]
    by_cases hk : k = i - m
    · rw [if_pos hk, if_pos (by omega)]
    · rw [if_neg hk, if_neg (by omega)]
theorem goneW_len (m i : Nat) (l : List ByteArray) : (goneW m i l).length ≤ l.length := by
  unfold goneW
  split
  · exact Nat.le_refl _
  · exact List.length_eraseIdx_le _ _
set_option maxRecDepth 100000 in
set_option maxHeartbeats 16000000 in
theorem without26 (d : S27) (i : Nat) (A B : Option Addr) (ca cb : Nat) (w : World) (hA : Kd.C k63 w A d.f1.length d.f1) (hB : Kd.C Kd.string w B d.f2.length d.f2) (h1 : d.f1.length ≤ 100000) (h2 : d.f2.length ≤ 100000) :
    Calls Try.prog 26 #[.agg #[.int .i64 d.f0, .slice A d.f1.length ca, .slice B d.f2.length cb], .int .i64 i] w fun e w' => DR (withoutD d i) w e w' := by
  have HA := Lib.hid hA
  have HBB := Lib.hid hB
  obtain ⟨m, hm⟩ : ∃ m, m = d.f1.length := ⟨_, rfl⟩
  obtain ⟨p, hp⟩ : ∃ p, p = d.f2.length := ⟨_, rfl⟩
  rw [← hm] at h1
  rw [← hp] at h2
  rw [← hm, ← hp]
  have Hm := Lib.hid hm
  have Hp := Lib.hid hp
  clear hA hB hm hp
  have H0 : Hid ((((w.alloc (.cells #[.int .i64 d.f0, .slice A m ca, .slice B p cb] 27)).alloc (.cells #[.int .i64 0, .slice none 0 0, .slice none 0 0] 27)).alloc (.cells #[.int .i64 d.f0, .slice none 0 0, .slice none 0 0] 27)).heap[w.heap.size]? = some (.cells #[.int .i64 d.f0, .slice A m ca, .slice B p cb] 27 (0, 0))) := Lib.hid (blk_alloc (blk_alloc (blk_new w _) _) _)
  have H1 : Hid ((((w.alloc (.cells #[.int .i64 d.f0, .slice A m ca, .slice B p cb] 27)).alloc (.cells #[.int .i64 0, .slice none 0 0, .slice none 0 0] 27)).alloc (.cells #[.int .i64 d.f0, .slice none 0 0, .slice none 0 0] 27)).heap[w.heap.size + 1]? = some (.cells #[.int .i64 0, .slice none 0 0, .slice none 0 0] 27 (0, 0))) := Lib.hid (by
    have := blk_new (w.alloc (.cells #[.int .i64 d.f0, .slice A m ca, .slice B p cb] 27)) (.cells #[.int .i64 0, .slice none 0 0, .slice none 0 0] 27)
    rw [World.size_alloc] at this
    exact blk_alloc this _)
  have H2 : Hid ((((w.alloc (.cells #[.int .i64 d.f0, .slice A m ca, .slice B p cb] 27)).alloc (.cells #[.int .i64 0, .slice none 0 0, .slice none 0 0] 27)).alloc (.cells #[.int .i64 d.f0, .slice none 0 0, .slice none 0 0] 27)).heap[w.heap.size + 1 + 1]? = some (.cells #[.int .i64 d.f0, .slice none 0 0, .slice none 0 0] 27 (0, 0))) := Lib.hid (by
    have := blk_new ((w.alloc (.cells #[.int .i64 d.f0, .slice A m ca, .slice B p cb] 27)).alloc (.cells #[.int .i64 0, .slice none 0 0, .slice none 0 0] 27)) (.cells #[.int .i64 d.f0, .slice none 0 0, .slice none 0 0] 27)
    rw [World.size_alloc, World.size_alloc] at this
    exact this)
  have HB : Hid (Below w.heap.size w (((w.alloc (.cells #[.int .i64 d.f0, .slice A m ca, .slice B p cb] 27)).alloc (.cells #[.int .i64 0, .slice none 0 0, .slice none 0 0] 27)).alloc (.cells #[.int .i64 d.f0, .slice none 0 0, .slice none 0 0] 27))) := Lib.hid ((((Below.refl _ w).alloc (Nat.le_refl _) _).alloc (by simp) _).alloc (by simp; omega) _)
  have HS : Hid ((w.heap.size + 3) ≤ (((w.alloc (.cells #[.int .i64 d.f0, .slice A m ca, .slice B p cb] 27)).alloc (.cells #[.int .i64 0, .slice none 0 0, .slice none 0 0] 27)).alloc (.cells #[.int .i64 d.f0, .slice none 0 0, .slice none 0 0] 27)).heap.size) := Lib.hid (by simp)
  have HX : Hid ((w.alloc (.cells #[.int .i64 d.f0, .slice A m ca, .slice B p cb] 27)).alloc (.cells #[.int .i64 0, .slice none 0 0, .slice none 0 0] 27) = (w.alloc (.cells #[.int .i64 d.f0, .slice A m ca, .slice B p cb] 27)).alloc (.cells #[.int .i64 0, .slice none 0 0, .slice none 0 0] 27)) := Lib.hid rfl
  have b0 : ((w.alloc (.cells #[.int .i64 d.f0, .slice A m ca, .slice B p cb] 27)).alloc (.cells #[.int .i64 0, .slice none 0 0, .slice none 0 0] 27)).cell? ⟨w.heap.size, 0, none⟩ = some (.int .i64 d.f0) := blk_at (blk_alloc (blk_new w _) _) 0 rfl
  go_enter Try.func26, Try.ntmps26
  go_upto_region 2 with (fail)
  clear b0 HX
  generalize (((w.alloc (.cells #[.int .i64 d.f0, .slice A m ca, .slice B p cb] 27)).alloc (.cells #[.int .i64 0, .slice none 0 0, .slice none 0 0] 27)).alloc (.cells #[.int .i64 d.f0, .slice none 0 0, .slice none 0 0] 27)) = wa at *
  obtain ⟨g, hg⟩ : ∃ g, g = w.heap.size := ⟨_, rfl⟩
  rw [← hg] at H0 H1 H2 ⊢
  have HG := Lib.hid hg
  clear hg
  go_wp2_with (fail)
  go_loopw [6] (fun v6 wr => ∃ k : Nat, k ≤ m ∧ v6 = .int .i64 k ∧ Hid (wr.heap[g]? = some (.cells #[.int .i64 d.f0, .slice A m ca, .slice B p cb] 27 (0, 0))) ∧ Hid (wr.heap[g + 1]? = some (.cells #[.int .i64 0, .slice none 0 0, .slice none 0 0] 27 (0, 0))) ∧ (∃ va, Hid (wr.heap[g + 1 + 1]? = some (.cells #[.int .i64 d.f0, va, .slice none 0 0] 27 (0, 0))) ∧ Hid (Kd.R (Kd.fixed k63 w) 63 wr (w.heap.size + 3) (fun _ => True) va ((d.f1.take k).eraseIdx i))) ∧ Hid (Below w.heap.size w wr) ∧ Hid ((w.heap.size + 3) ≤ wr.heap.size)) (fun v6 _ => m - (intOf v6).toNat)
  case atStart => exact ⟨0, Nat.zero_le _, rfl, H0, H1, ⟨_, H2, Lib.hid (by rw [List.take_zero, List.eraseIdx_nil]; exact Kd.R_nil _ _ _ _ _)⟩, HB, HS⟩
  case round =>
    clear H0 H1 H2 HB HS
    obtain ⟨k, hk, rfl, H0k, H1k, ⟨va, H2k, HO⟩, HBk, HSz⟩ := hrel
    obtain ⟨Ao, mo, co, rfl⟩ := R_sliced HO.out
    have a1 : wr.cell? ⟨g, 1, none⟩ = some (.slice A m ca) := blk_at H0k.out 1 rfl
    by_cases hlt : k < m
    · obtain ⟨ad, A3, c3, hA3, e0, e1, hl3, hC3⟩ := at_T63 HA.out (k : Int) (by omega) (by rw [← Hm.out]; omega)
      subst hA3
      have hx1 : d.f1.getD k z63 = rd_T63 d.f1 (k : Int) := by unfold rd_T63; rw [Int.toNat_natCast]
      have hst := erase_take d.f1 i k z63 (by rw [← Hm.out]; exact hlt)
      rw [hx1] at hst
      generalize rd_T63 d.f1 (k : Int) = u at *
      rw [Int.toNat_natCast] at e0 e1
      have HK := Lib.hid (k63_mk w u hl3 hC3)
      have HST := Lib.hid hst
      have E0 := Lib.hid e0
      have E1 := Lib.hid e1
      clear e0 e1
      have HLen : Hid (((d.f1.take k).eraseIdx i).length ≤ 100000) := Lib.hid (by have := List.length_eraseIdx_le (d.f1.take k) i; have := List.length_take_le k d.f1; omega)
      have i0 : (0 : Int) ≤ (k : Int) := by omega
      have i1 : (k : Int) < (m : Int) := by omega
      clear hst hx1 hl3 hC3
      by_cases hki : k = i
      · have hd : (d.f1.take (k + 1)).eraseIdx i = (d.f1.take k).eraseIdx i := by rw [HST.out, if_pos hki]
        have HD := Lib.hid hd
        have k1 : ((k : Int) == (i : Int)) = true := by rw [hki]; simp
        have k2 : ((k : Int) != (i : Int)) = false := by rw [hki]; simp
        clear hd HST
        go_wp2_with (fail)
        go_roundw
        case rel => exact ⟨k + 1, by omega, by go_num, H0k, H1k, ⟨_, H2k, by rw [HD.out]; exact HO⟩, HBk, HSz⟩
        case measure => simp [intOf]; omega
      · have hd : (d.f1.take (k + 1)).eraseIdx i = (d.f1.take k).eraseIdx i ++ [u] := by rw [HST.out, if_neg hki]
        have HD := Lib.hid hd
        have k1 : ((k : Int) == (i : Int)) = false := beq_false_of_ne (by omega)
        have k2 : ((k : Int) != (i : Int)) = true := by simp; omega
        clear hd HST
        go_upto_region 6 with (fail)
        refine start_ (n := 11) (S := (fun w' => w'.cell? ⟨(g + 1 + 1), 1, none⟩ = some (.slice Ao mo co) ∧ w'.cell? ⟨g, 1, none⟩ = some (.slice (some ad) m ca) ∧ w'.cell? (ad.add (k * 2)) = some (.string u.f0) ∧ w'.cell? ⟨(ad.add (k * 2)).block, (ad.add (k * 2)).off + 1, none⟩ = some (.slice A3 u.f1.length c3))) (ds := [10]) #[false, false, false, false, false, false, false, false, false, false, false] (by kernel_rfl) rfl rfl ⟨blk_at H2k.out 1 rfl, blk_at H0k.out 1 rfl, pw_cell_below HBk.out E0.out, pw_cell_below HBk.out E1.out⟩ (fun hHeld => ?_)
        have H0d := Lib.hid (blk_drew H0k.out)
        have H1d := Lib.hid (blk_drew H1k.out)
        have H2d := Lib.hid (blk_drew H2k.out)
        have HOd := Lib.hid (Kd.R_drew HO.out)
        have HBd : Hid (Below w.heap.size w wr.drew) := HBk.out.drew
        have HSd : Hid ((w.heap.size + 3) ≤ wr.drew.heap.size) := HSz.out
        generalize wr.drew = Wd at *
        refine pure_ (i := 0) (N := some 21) (v := ?_) (a' := ?_) #[true, false, false, false, false, false, false, false, false, false, false] rfl rfl (by kernel_rfl) (fun _ _ _ h => h) (Or.inl ⟨by rfl, ?_⟩) ?_ ?_
        rotate_left
        · intro w'
          go_simp
          with_reducible rfl
        rotate_left
        · simp only [Act.put, List.setIfInBounds_toArray, List.set_cons_zero, List.set_cons_succ]
          rfl
        refine take_ (i := 1) (N := some 22) (v := ?_) (a' := ?_) #[true, true, false, false, false, false, false, false, false, false, false] rfl rfl (by kernel_rfl) (fun _ _ _ h => h) (Or.inl ⟨by rfl, ?_⟩) hHeld ?_ ?_
        rotate_left
        · rintro w' ⟨s0, s1, s2, s3⟩
          go_simp
          with_reducible rfl
        rotate_left
        · simp only [Act.put, List.setIfInBounds_toArray, List.set_cons_zero, List.set_cons_succ]
          rfl
        refine pure_ (i := 2) (N := some 23) (v := ?_) (a' := ?_) #[true, true, true, false, false, false, false, false, false, false, false] rfl rfl (by kernel_rfl) (fun _ _ _ h => h) (Or.inl ⟨by rfl, ?_⟩) ?_ ?_
        rotate_left
        · intro w'
          go_simp
          with_reducible rfl
        rotate_left
        · simp only [Act.put, List.setIfInBounds_toArray, List.set_cons_zero, List.set_cons_succ]
          rfl
        refine take_ (i := 3) (N := some 24) (v := ?_) (a' := ?_) #[true, true, true, true, false, false, false, false, false, false, false] rfl rfl (by kernel_rfl) (fun _ _ _ h => h) (Or.inl ⟨by rfl, ?_⟩) hHeld ?_ ?_
        rotate_left
        · rintro w' ⟨s0, s1, s2, s3⟩
          go_simp
          with_reducible rfl
        rotate_left
        · simp only [Act.put, List.setIfInBounds_toArray, List.set_cons_zero, List.set_cons_succ]
          rfl
        refine pure_ (i := 4) (N := some 25) (v := ?_) (a' := ?_) #[true, true, true, true, true, false, false, false, false, false, false] rfl rfl (by kernel_rfl) (fun _ _ _ h => h) (Or.inl ⟨by rfl, ?_⟩) ?_ ?_
        rotate_left
        · intro w'
          go_simp
          with_reducible rfl
        rotate_left
        · simp only [Act.put, List.setIfInBounds_toArray, List.set_cons_zero, List.set_cons_succ]
          rfl
        refine pure_ (i := 5) (N := some 26) (v := ?_) (a' := ?_) #[true, true, true, true, true, true, false, false, false, false, false] rfl rfl (by kernel_rfl) (fun _ _ _ h => h) (Or.inl ⟨by rfl, ?_⟩) ?_ ?_
        rotate_left
        · intro w'
          go_simp
          with_reducible rfl
        rotate_left
        · simp only [Act.put, List.setIfInBounds_toArray, List.set_cons_zero, List.set_cons_succ]
          rfl
        refine take_ (i := 6) (N := some 27) (v := ?_) (a' := ?_) #[true, true, true, true, true, true, true, false, false, false, false] rfl rfl (by kernel_rfl) (fun _ _ _ h => h) (Or.inl ⟨by rfl, ?_⟩) hHeld ?_ ?_
        rotate_left
        · rintro w' ⟨s0, s1, s2, s3⟩
          go_simp
          with_reducible rfl
        rotate_left
        · simp only [Act.put, List.setIfInBounds_toArray, List.set_cons_zero, List.set_cons_succ]
          rfl
        refine one_ (i := 7) (N := some 28) #[true, true, true, true, true, true, true, true, false, false, false] rfl rfl (by kernel_rfl) (by decide) (fun K hK => ?_)
        refine value_ (w1 := (Wd.alloc (.cells [.string u.f0, .slice A3 u.f1.length c3].toArray 63))) (v := .slice (some ⟨Wd.heap.size, 0, none⟩) 1 1) (by rfl) rfl (by go_simp) ?_
        refine hK.out _ _ ⟨pw_cell_below ((Below.refl _ _).alloc (Nat.le_refl _) _) hHeld.1, pw_cell_below ((Below.refl _ _).alloc (Nat.le_refl _) _) hHeld.2.1, pw_cell_below ((Below.refl _ _).alloc (Nat.le_refl _) _) hHeld.2.2.1, pw_cell_below ((Below.refl _ _).alloc (Nat.le_refl _) _) hHeld.2.2.2⟩ (fun hHeld => ?_)
        clear hK K
        refine norm_ (a' := ?_) ?_ ?_
        rotate_left
        · show Act.put _ (some 28) _ = _
          simp only [Act.put, List.setIfInBounds_toArray, List.set_cons_zero, List.set_cons_succ]
          rfl
        refine one_ (i := 8) (N := some 29) #[true, true, true, true, true, true, true, true, true, false, false] rfl rfl (by kernel_rfl) (by decide) (fun K hK => ?_)
        refine Kd.R_append_step (Kd.fixed k63 w) (w0 := Wd) (w.heap.size + 3) (by rfl) (.tmp 22) (.tmp 28) 22 63 (.agg #[.string ⟨#[]⟩, .slice none 0 0]) 40 rfl Try.underlying22 info63' rfl (show 0 < 2 by decide) (by decide) (.slice Ao mo co) ((d.f1.take k).eraseIdx i) u _ (fun _ => True) (fun _ => False) rfl rfl ?hp (fun _ hk => hk.elim) (fun _ _ => trivial) HOd.out (Below.refl _ _) ?hS ?hl ?_
        case hp => exact HK.out
        case hS => exact HSd.out
        case hl => have := HLen.out; omega
        intro v1 w3 hO3 hB3 hg3 hat3
        have HO3 := Lib.hid hO3
        have G0 := Lib.hid (blk_grown H0d.out hg3 (Kd.R_ne HOd.out H0d.out (by decide)))
        have G1 := Lib.hid (blk_grown H1d.out hg3 (Kd.R_ne HOd.out H1d.out (by decide)))
        have G2 := Lib.hid (blk_grown H2d.out hg3 (Kd.R_ne HOd.out H2d.out (by decide)))
        have HS3 : Hid ((w.heap.size + 3) ≤ w3.heap.size) := Lib.hid (Nat.le_trans HSd.out hg3.size)
        have HB3 : Hid (Below w.heap.size w w3) := Lib.hid ⟨hg3.os.trans HBd.out.os, hg3.tape.trans HBd.out.tape, hg3.output.trans HBd.out.output, Nat.le_trans HBd.out.size hg3.size, fun k hk => (hg3.block k (Nat.lt_of_lt_of_le hk HBd.out.size) (fun e => by have := Kd.R_base HOd.out k e.symm; omega)).trans (HBd.out.block k hk)⟩
        obtain ⟨A9, m9, c9, hv3⟩ := R_sliced hO3
        subst hv3
        refine hK.out _ _ ⟨blk_at G2.out 1 rfl, blk_at G0.out 1 rfl, pw_cell_below HB3.out E0.out, pw_cell_below HB3.out E1.out⟩ (fun hHeld => ?_)
        clear hK K hO3 hB3 hg3 hat3
        refine norm_ (a' := ?_) ?_ ?_
        rotate_left
        · show Act.put _ (some 29) _ = _
          simp only [Act.put, List.setIfInBounds_toArray, List.set_cons_zero, List.set_cons_succ]
          rfl
        refine pure_ (i := 9) (N := some 30) (v := ?_) (a' := ?_) #[true, true, true, true, true, true, true, true, true, true, false] rfl rfl (by kernel_rfl) (fun _ _ _ h => h) (Or.inl ⟨by rfl, ?_⟩) ?_ ?_
        rotate_left
        · intro w'
          go_simp
          with_reducible rfl
        rotate_left
        · simp only [Act.put, List.setIfInBounds_toArray, List.set_cons_zero, List.set_cons_succ]
          rfl
        refine last_ (i := 10) (N := none) #[true, true, true, true, true, true, true, true, true, true, true] rfl rfl (by kernel_rfl) (by decide) (fun K hK => ?_)
        have x1 : w3.cell? ⟨(g + 1 + 1), 1, none⟩ = some (.slice Ao mo co) := blk_at G2.out 1 rfl
        have z1 : w3.frozen? ⟨(g + 1 + 1), 1, none⟩ = false := blk_frozen G2.out 1
        refine skip_ (w1 := w3.setCell ⟨(g + 1 + 1), 1, none⟩ (.slice A9 m9 c9)) (by rfl) rfl (by go_simp) ?_
        clear x1 z1
        refine hK.out _ _ ?_
        clear hK K hHeld
        refine done_ (by kernel_rfl) ?_
        go_wp2_with (fail)
        have HT9 : Hid ((w3.setCell ⟨(g + 1 + 1), 1, none⟩ (.slice A9 m9 c9)).heap[g + 1 + 1]? = some (.cells #[.int .i64 d.f0, .slice A9 m9 c9, .slice none 0 0] 27 (0, 0))) := Lib.hid (blk_put G2.out 1 _ rfl)
        have HO9 := Lib.hid (Kd.R_set HO3.out G2.out (show ∀ q, q ∈ [63] → q ≠ 27 by decide) 1 (.slice A9 m9 c9))
        have H09 := Lib.hid (blk_far G0.out (p := ⟨(g + 1 + 1), 1, none⟩) (show g ≠ g + 1 + 1 by omega) (.slice A9 m9 c9))
        have H19 := Lib.hid (blk_far G1.out (p := ⟨(g + 1 + 1), 1, none⟩) (show g + 1 ≠ g + 1 + 1 by omega) (.slice A9 m9 c9))
        have HB9 : Hid (Below w.heap.size w (w3.setCell ⟨(g + 1 + 1), 1, none⟩ (.slice A9 m9 c9))) := Lib.hid (HB3.out.setCell (show w.heap.size ≤ g + 1 + 1 by rw [← HG.out]; omega) _)
        have HS9 : Hid ((w.heap.size + 3) ≤ (w3.setCell ⟨(g + 1 + 1), 1, none⟩ (.slice A9 m9 c9)).heap.size) := Lib.hid (by rw [World.size_setCell]; exact HS3.out)
        go_roundw
        case rel => exact ⟨k + 1, by omega, by go_num, H09, H19, ⟨_, HT9, by rw [HD.out]; exact HO9⟩, HB9, HS9⟩
        case measure => simp [intOf]; omega
    · obtain rfl : m = k := by omega
      have hfull : d.f1.take m = d.f1 := List.take_of_length_le (by rw [← Hm.out]; exact Nat.le_refl _)
      rw [hfull] at HO
      clear hfull
      go_wp2_with (fail)
      clear a1
      have HQ : Hid (∃ oo, oo = wr) := Lib.hid ⟨_, rfl⟩
      clear HQ
      go_loopw [7] (fun v7 wr => ∃ k : Nat, k ≤ p ∧ v7 = .int .i64 k ∧ Hid (wr.heap[g]? = some (.cells #[.int .i64 d.f0, .slice A m ca, .slice B p cb] 27 (0, 0))) ∧ Hid (wr.heap[g + 1]? = some (.cells #[.int .i64 0, .slice none 0 0, .slice none 0 0] 27 (0, 0))) ∧ (∃ vb, Hid (wr.heap[g + 1 + 1]? = some (.cells #[.int .i64 d.f0, .slice Ao mo co, vb] 27 (0, 0))) ∧ Hid (Kd.R (Kd.fixed k63 w) 63 wr (w.heap.size + 3) (fun _ => True) (.slice Ao mo co) (d.f1.eraseIdx i)) ∧ Hid (Kd.R Kd.string 9 wr (w.heap.size + 3) (fun _ => True) vb (goneW m i (d.f2.take k)))) ∧ Hid (Below w.heap.size w wr) ∧ Hid ((w.heap.size + 3) ≤ wr.heap.size)) (fun v7 _ => p - (intOf v7).toNat)
      case atStart => exact ⟨0, Nat.zero_le _, rfl, H0k, H1k, ⟨_, H2k, HO, Lib.hid (by rw [List.take_zero]; unfold goneW; rw [List.eraseIdx_nil, ite_self]; exact Kd.R_nil _ _ _ _ _)⟩, HBk, HSz⟩
      case round =>
        clear H0k H1k H2k HO HBk HSz
        obtain ⟨k, hk2, rfl, H0k, H1k, ⟨vb, H2k, HOc, HO⟩, HBk, HSz⟩ := hrel
        have hst0 : True := trivial
        obtain ⟨Av, mv, cv, hvv⟩ : ∃ A m c, Value.slice Ao mo co = .slice A m c := ⟨_, _, _, rfl⟩
        obtain ⟨Ab, mb, cb2, rfl⟩ := R_sliced HO.out
        have a1 : wr.cell? ⟨g, 1, none⟩ = some (.slice A m ca) := blk_at H0k.out 1 rfl
        clear hst0 hvv
        by_cases hlt : k < p
        · obtain ⟨ad, hA3, e0⟩ := at_str HBB.out k (by rw [← Hp.out]; exact hlt)
          subst hA3
          have a2 : wr.cell? ⟨g, 2, none⟩ = some (.slice (some ad) p cb) := blk_at H0k.out 2 rfl
          have hst := goneW_take m i d.f2 k (by rw [← Hp.out]; exact hlt)
          generalize d.f2.getD k ⟨#[]⟩ = u at *
          have HST := Lib.hid hst
          have E0 := Lib.hid e0
          clear e0
          have HLen : Hid ((goneW m i (d.f2.take k)).length ≤ 100000) := Lib.hid (by have := goneW_len m i (d.f2.take k); have := List.length_take_le k d.f2; omega)
          have i0 : (0 : Int) ≤ (k : Int) := by omega
          have i1 : (k : Int) < (p : Int) := by omega
          have i2 : IntKind.i64.wrap ((m : Int) + (k : Int)) = (m : Int) + (k : Int) := by rw [IntKind.wrap_i64] <;> omega
          clear hst
          by_cases hki : m + k = i
          · have hd : goneW m i (d.f2.take (k + 1)) = goneW m i (d.f2.take k) := by rw [HST.out, if_pos hki]
            have HD := Lib.hid hd
            have k1 : ((m : Int) + (k : Int) == (i : Int)) = true := by rw [← hki]; simp
            have k2 : ((m : Int) + (k : Int) != (i : Int)) = false := by rw [← hki]; simp
            have HKI := Lib.hid hki
            clear hd HST hki
            go_wp2_with (fail)
            go_roundw
            case rel => exact ⟨k + 1, by omega, by go_num, H0k, H1k, ⟨_, H2k, HOc, by rw [HD.out]; exact HO⟩, HBk, HSz⟩
            case measure => simp [intOf]; omega
          · have hd : goneW m i (d.f2.take (k + 1)) = goneW m i (d.f2.take k) ++ [u] := by rw [HST.out, if_neg hki]
            have HD := Lib.hid hd
            have k1 : ((m : Int) + (k : Int) == (i : Int)) = false := beq_false_of_ne (by omega)
            have k2 : ((m : Int) + (k : Int) != (i : Int)) = true := by simp; omega
            have HKI := Lib.hid hki
            clear hd HST hki
            go_upto_region 11 with (fail)
            refine start_ (n := 11) (S := (fun w' => w'.cell? ⟨(g + 1 + 1), 2, none⟩ = some (.slice Ab mb cb2) ∧ w'.cell? ⟨g, 2, none⟩ = some (.slice (some ad) p cb) ∧ w'.cell? (ad.add k) = some (.string u))) (ds := [10]) #[false, false, false, false, false, false, false, false, false, false, false] (by kernel_rfl) rfl rfl ⟨blk_at H2k.out 2 rfl, blk_at H0k.out 2 rfl, pw_cell_below HBk.out E0.out⟩ (fun hHeld => ?_)
            have H0d := Lib.hid (blk_drew H0k.out)
            have H1d := Lib.hid (blk_drew H1k.out)
            have H2d := Lib.hid (blk_drew H2k.out)
            have HOd := Lib.hid (Kd.R_drew HO.out)
            have HCd := Lib.hid (Kd.R_drew HOc.out)
            have HBd : Hid (Below w.heap.size w wr.drew) := HBk.out.drew
            have HSd : Hid ((w.heap.size + 3) ≤ wr.drew.heap.size) := HSz.out
            generalize wr.drew = Wd at *
            refine pure_ (i := 0) (N := some 45) (v := ?_) (a' := ?_) #[true, false, false, false, false, false, false, false, false, false, false] rfl rfl (by kernel_rfl) (fun _ _ _ h => h) (Or.inl ⟨by rfl, ?_⟩) ?_ ?_
            rotate_left
            · intro w'
              go_simp
              with_reducible rfl
            rotate_left
            · simp only [Act.put, List.setIfInBounds_toArray, List.set_cons_zero, List.set_cons_succ]
              rfl
            refine take_ (i := 1) (N := some 46) (v := ?_) (a' := ?_) #[true, true, false, false, false, false, false, false, false, false, false] rfl rfl (by kernel_rfl) (fun _ _ _ h => h) (Or.inl ⟨by rfl, ?_⟩) hHeld ?_ ?_
            rotate_left
            · rintro w' ⟨s0, s1, s2⟩
              go_simp
              with_reducible rfl
            rotate_left
            · simp only [Act.put, List.setIfInBounds_toArray, List.set_cons_zero, List.set_cons_succ]
              rfl
            refine pure_ (i := 2) (N := some 47) (v := ?_) (a' := ?_) #[true, true, true, false, false, false, false, false, false, false, false] rfl rfl (by kernel_rfl) (fun _ _ _ h => h) (Or.inl ⟨by rfl, ?_⟩) ?_ ?_
            rotate_left
            · intro w'
              go_simp
              with_reducible rfl
            rotate_left
            · simp only [Act.put, List.setIfInBounds_toArray, List.set_cons_zero, List.set_cons_succ]
              rfl
            refine take_ (i := 3) (N := some 48) (v := ?_) (a' := ?_) #[true, true, true, true, false, false, false, false, false, false, false] rfl rfl (by kernel_rfl) (fun _ _ _ h => h) (Or.inl ⟨by rfl, ?_⟩) hHeld ?_ ?_
            rotate_left
            · rintro w' ⟨s0, s1, s2⟩
              go_simp
              with_reducible rfl
            rotate_left
            · simp only [Act.put, List.setIfInBounds_toArray, List.set_cons_zero, List.set_cons_succ]
              rfl
            refine pure_ (i := 4) (N := some 49) (v := ?_) (a' := ?_) #[true, true, true, true, true, false, false, false, false, false, false] rfl rfl (by kernel_rfl) (fun _ _ _ h => h) (Or.inl ⟨by rfl, ?_⟩) ?_ ?_
            rotate_left
            · intro w'
              go_simp
              with_reducible rfl
            rotate_left
            · simp only [Act.put, List.setIfInBounds_toArray, List.set_cons_zero, List.set_cons_succ]
              rfl
            refine pure_ (i := 5) (N := some 50) (v := ?_) (a' := ?_) #[true, true, true, true, true, true, false, false, false, false, false] rfl rfl (by kernel_rfl) (fun _ _ _ h => h) (Or.inl ⟨by rfl, ?_⟩) ?_ ?_
            rotate_left
            · intro w'
              go_simp
              with_reducible rfl
            rotate_left
            · simp only [Act.put, List.setIfInBounds_toArray, List.set_cons_zero, List.set_cons_succ]
              rfl
            refine take_ (i := 6) (N := some 51) (v := ?_) (a' := ?_) #[true, true, true, true, true, true, true, false, false, false, false] rfl rfl (by kernel_rfl) (fun _ _ _ h => h) (Or.inl ⟨by rfl, ?_⟩) hHeld ?_ ?_
            rotate_left
            · rintro w' ⟨s0, s1, s2⟩
              go_simp
              with_reducible rfl
            rotate_left
            · simp only [Act.put, List.setIfInBounds_toArray, List.set_cons_zero, List.set_cons_succ]
              rfl
            refine one_ (i := 7) (N := some 52) #[true, true, true, true, true, true, true, true, false, false, false] rfl rfl (by kernel_rfl) (by decide) (fun K hK => ?_)
            refine value_ (w1 := (Wd.alloc (.cells [.string u].toArray 9))) (v := .slice (some ⟨Wd.heap.size, 0, none⟩) 1 1) (by rfl) rfl (by go_simp) ?_
            refine hK.out _ _ ⟨pw_cell_below ((Below.refl _ _).alloc (Nat.le_refl _) _) hHeld.1, pw_cell_below ((Below.refl _ _).alloc (Nat.le_refl _) _) hHeld.2.1, pw_cell_below ((Below.refl _ _).alloc (Nat.le_refl _) _) hHeld.2.2⟩ (fun hHeld => ?_)
            clear hK K
            refine norm_ (a' := ?_) ?_ ?_
            rotate_left
            · show Act.put _ (some 52) _ = _
              simp only [Act.put, List.setIfInBounds_toArray, List.set_cons_zero, List.set_cons_succ]
              rfl
            refine one_ (i := 8) (N := some 53) #[true, true, true, true, true, true, true, true, true, false, false] rfl rfl (by kernel_rfl) (by decide) (fun K hK => ?_)
            refine Kd.R_append_step Kd.string (w0 := Wd) (w.heap.size + 3) (by rfl) (.tmp 46) (.tmp 52) 25 9 (.string ⟨#[]⟩) 16 rfl Try.underlying25 info9 rfl (show 0 < 1 by decide) (by decide) (.slice Ab mb cb2) (goneW m i (d.f2.take k)) u _ (fun _ => True) (fun _ => False) rfl rfl ?hp (fun _ hk => hk.elim) (fun _ _ => trivial) HOd.out (Below.refl _ _) ?hS ?hl ?_
            case hp => exact rfl
            case hS => exact HSd.out
            case hl => have := HLen.out; omega
            intro v1 w3 hO3 hB3 hg3 hat3
            have HO3 := Lib.hid hO3
            have G0 := Lib.hid (blk_grown H0d.out hg3 (Kd.R_ne HOd.out H0d.out (by decide)))
            have G1 := Lib.hid (blk_grown H1d.out hg3 (Kd.R_ne HOd.out H1d.out (by decide)))
            have G2 := Lib.hid (blk_grown H2d.out hg3 (Kd.R_ne HOd.out H2d.out (by decide)))
            have HS3 : Hid ((w.heap.size + 3) ≤ w3.heap.size) := Lib.hid (Nat.le_trans HSd.out hg3.size)
            have HB3 : Hid (Below w.heap.size w w3) := Lib.hid ⟨hg3.os.trans HBd.out.os, hg3.tape.trans HBd.out.tape, hg3.output.trans HBd.out.output, Nat.le_trans HBd.out.size hg3.size, fun k hk => (hg3.block k (Nat.lt_of_lt_of_le hk HBd.out.size) (fun e => by have := Kd.R_base HOd.out k e.symm; omega)).trans (HBd.out.block k hk)⟩
            have HC3 := Lib.hid (Kd.R_over HCd.out HOd.out (show ∀ q, q ∈ [63] → q ≠ 9 by decide) hg3)
            obtain ⟨A9, m9, c9, hv3⟩ := R_sliced hO3
            subst hv3
            refine hK.out _ _ ⟨blk_at G2.out 2 rfl, blk_at G0.out 2 rfl, pw_cell_below HB3.out E0.out⟩ (fun hHeld => ?_)
            clear hK K hO3 hB3 hg3 hat3
            refine norm_ (a' := ?_) ?_ ?_
            rotate_left
            · show Act.put _ (some 53) _ = _
              simp only [Act.put, List.setIfInBounds_toArray, List.set_cons_zero, List.set_cons_succ]
              rfl
            refine pure_ (i := 9) (N := some 54) (v := ?_) (a' := ?_) #[true, true, true, true, true, true, true, true, true, true, false] rfl rfl (by kernel_rfl) (fun _ _ _ h => h) (Or.inl ⟨by rfl, ?_⟩) ?_ ?_
            rotate_left
            · intro w'
              go_simp
              with_reducible rfl
            rotate_left
            · simp only [Act.put, List.setIfInBounds_toArray, List.set_cons_zero, List.set_cons_succ]
              rfl
            refine last_ (i := 10) (N := none) #[true, true, true, true, true, true, true, true, true, true, true] rfl rfl (by kernel_rfl) (by decide) (fun K hK => ?_)
            have x1 : w3.cell? ⟨(g + 1 + 1), 2, none⟩ = some (.slice Ab mb cb2) := blk_at G2.out 2 rfl
            have z1 : w3.frozen? ⟨(g + 1 + 1), 2, none⟩ = false := blk_frozen G2.out 2
            refine skip_ (w1 := w3.setCell ⟨(g + 1 + 1), 2, none⟩ (.slice A9 m9 c9)) (by rfl) rfl (by go_simp) ?_
            clear x1 z1
            refine hK.out _ _ ?_
            clear hK K hHeld
            refine done_ (by kernel_rfl) ?_
            go_wp2_with (fail)
            have HT9 : Hid ((w3.setCell ⟨(g + 1 + 1), 2, none⟩ (.slice A9 m9 c9)).heap[g + 1 + 1]? = some (.cells #[.int .i64 d.f0, .slice Ao mo co, .slice A9 m9 c9] 27 (0, 0))) := Lib.hid (blk_put G2.out 2 _ rfl)
            have HO9 := Lib.hid (Kd.R_set HO3.out G2.out (by decide) 2 (.slice A9 m9 c9))
            have HC9 := Lib.hid (Kd.R_set HC3.out G2.out (show ∀ q, q ∈ [63] → q ≠ 27 by decide) 2 (.slice A9 m9 c9))
            have H09 := Lib.hid (blk_far G0.out (p := ⟨(g + 1 + 1), 2, none⟩) (show g ≠ g + 1 + 1 by omega) (.slice A9 m9 c9))
            have H19 := Lib.hid (blk_far G1.out (p := ⟨(g + 1 + 1), 2, none⟩) (show g + 1 ≠ g + 1 + 1 by omega) (.slice A9 m9 c9))
            have HB9 : Hid (Below w.heap.size w (w3.setCell ⟨(g + 1 + 1), 2, none⟩ (.slice A9 m9 c9))) := Lib.hid (HB3.out.setCell (show w.heap.size ≤ g + 1 + 1 by rw [← HG.out]; omega) _)
            have HS9 : Hid ((w.heap.size + 3) ≤ (w3.setCell ⟨(g + 1 + 1), 2, none⟩ (.slice A9 m9 c9)).heap.size) := Lib.hid (by rw [World.size_setCell]; exact HS3.out)
            go_roundw
            case rel => exact ⟨k + 1, by omega, by go_num, H09, H19, ⟨_, HT9, HC9, by rw [HD.out]; exact HO9⟩, HB9, HS9⟩
            case measure => simp [intOf]; omega
        · obtain rfl : p = k := by omega
          have hfull : d.f2.take p = d.f2 := List.take_of_length_le (by rw [← Hp.out]; exact Nat.le_refl _)
          rw [hfull] at HO
          clear hfull
          have a2 : wr.cell? ⟨g, 2, none⟩ = some (.slice B p cb) := blk_at H0k.out 2 rfl
          have c0 : wr.cell? ⟨(g + 1 + 1), 0, none⟩ = some (.int .i64 d.f0) := blk_at H2k.out 0 rfl
          have c1 : wr.cell? ⟨(g + 1 + 1), 1, none⟩ = some (.slice Ao mo co) := blk_at H2k.out 1 rfl
          have c2 : wr.cell? ⟨(g + 1 + 1), 2, none⟩ = some (.slice Ab mb cb2) := blk_at H2k.out 2 rfl
          have y0 : wr.cell? ⟨(g + 1), 0, none⟩ = some (.int .i64 0) := blk_at H1k.out 0 rfl
          have z0 : wr.frozen? ⟨(g + 1), 0, none⟩ = false := blk_frozen H1k.out 0
          have y1 : wr.cell? ⟨(g + 1), 1, none⟩ = some (.slice none 0 0) := blk_at H1k.out 1 rfl
          have z1 : wr.frozen? ⟨(g + 1), 1, none⟩ = false := blk_frozen H1k.out 1
          have y2 : wr.cell? ⟨(g + 1), 2, none⟩ = some (.slice none 0 0) := blk_at H1k.out 2 rfl
          have z2 : wr.frozen? ⟨(g + 1), 2, none⟩ = false := blk_frozen H1k.out 2
          go_wp2_with (fail)
          have hb4 : (((wr.setCell ⟨(g + 1), 0, none⟩ (.int .i64 d.f0)).setCell ⟨(g + 1), 1, none⟩ (.slice Ao mo co)).setCell ⟨(g + 1), 2, none⟩ (.slice Ab mb cb2)).heap[g + 1]? = some (.cells #[.int .i64 d.f0, .slice Ao mo co, .slice Ab mb cb2] 27 (0, 0)) := blk_put (blk_put (blk_put H1k.out 0 _ rfl) 1 _ rfl) 2 _ rfl
          have hgg : w.heap.size ≤ g + 1 := by rw [← HG.out]; omega
          have hb5 : Below w.heap.size w (((wr.setCell ⟨(g + 1), 0, none⟩ (.int .i64 d.f0)).setCell ⟨(g + 1), 1, none⟩ (.slice Ao mo co)).setCell ⟨(g + 1), 2, none⟩ (.slice Ab mb cb2)) := ((HBk.out.setCell (show w.heap.size ≤ g + 1 from hgg) _).setCell (show w.heap.size ≤ g + 1 from hgg) _).setCell (show w.heap.size ≤ g + 1 from hgg) _
          have hlow : g + 1 < (w.heap.size + 3) := by rw [← HG.out]; omega
          have hc5 := R_low (R_low (R_low HOc.out (p := ⟨(g + 1), 0, none⟩) hlow (.int .i64 d.f0)) (p := ⟨(g + 1), 1, none⟩) hlow (.slice Ao mo co)) (p := ⟨(g + 1), 2, none⟩) hlow (.slice Ab mb cb2)
          have hs5 := R_low (R_low (R_low HO.out (p := ⟨(g + 1), 0, none⟩) hlow (.int .i64 d.f0)) (p := ⟨(g + 1), 1, none⟩) hlow (.slice Ao mo co)) (p := ⟨(g + 1), 2, none⟩) hlow (.slice Ab mb cb2)
          refine bodyPost_ret (results_cell_row rfl _ _ (g + 1) 27 #[.int .i64 d.f0, .slice Ao mo co, .slice Ab mb cb2] (0, 0) _ rfl hb4 Try.underlying27 rfl (by kernel_rfl)) rfl ?_
          obtain ⟨A6, c6, e6, l6, C6⟩ := fixed63 hc5 hb5
          obtain ⟨A7, c7, e7, l7, C7⟩ := Kd.R_reads hs5
          have e2 : (withoutD d i).f2 = goneW m i d.f2 := by show (if i < d.f1.length then d.f2 else d.f2.eraseIdx (i - d.f1.length)) = _; rw [← Hm.out]; rfl
          exact ⟨A6, c6, A7, c7, by rw [e6, e7, e2]; rfl, Lib.hid C6, Lib.hid (by rw [e2]; exact C7), Lib.hid hb5, Lib.hid ⟨l6, by rw [e2]; exact l7⟩⟩
/-- A state and a number, answered in rows of its own. -/
def SAR (z : S24) (m : Int) (w : World) (e : Ending) (w' : World) : Prop :=
  ∃ A c, e = .returned (.tuple #[.agg #[.int .i64 z.f0, .slice A z.f1.length c], .int .i64 m]) ∧ Hid (Kd.R k63 63 w' w.heap.size (fun _ => True) (.slice A z.f1.length c) z.f1) ∧ Hid (Below w.heap.size w w')
/-- A delta and a number, answered in rows of its own. -/
def DDR (z : S27) (m : Int) (w : World) (e : Ending) (w' : World) : Prop :=
  ∃ A c B k, e = .returned (.tuple #[.agg #[.int .i64 z.f0, .slice A z.f1.length c, .slice B z.f2.length k], .int .i64 m]) ∧ Hid (Kd.R k63 63 w' w.heap.size (fun _ => True) (.slice A z.f1.length c) z.f1) ∧ Hid (Kd.R Kd.string 9 w' w.heap.size (fun _ => True) (.slice B z.f2.length k) z.f2) ∧ Hid (Below w.heap.size w w')
theorem ApplyAns.sar {r : Int × List S63 × Int} {w w' : World} {e : Ending} (h : ApplyAns r w e w') : SAR ⟨r.1, r.2.1⟩ r.2.2 w e w' := by
  obtain ⟨v, rfl, h1, h2⟩ := h
  obtain ⟨A, c, rfl⟩ := Kd.R_slice h1.out
  exact ⟨A, c, rfl, h1, h2⟩
theorem DAns.ddr {r : Int × List S63 × List ByteArray × Int} {w w' : World} {e : Ending} (h : DAns r w e w') : DDR ⟨r.1, r.2.1, r.2.2.1⟩ r.2.2.2 w e w' := by
  obtain ⟨vs, vg, rfl, h1, h2, h3⟩ := h
  obtain ⟨A, c, rfl⟩ := Kd.R_slice h1.out
  obtain ⟨B, k, rfl⟩ := Kd.R_slice h2.out
  exact ⟨A, c, B, k, rfl, h1, h2, h3⟩
theorem DDR.dd {z : S27} {m : Int} {w w' : World} {e : Ending} (h : DDR z m w e w') : DD z m w e w' := by
  obtain ⟨A, c, B, k, rfl, h1, h2, h3⟩ := h
  have r1 := Kd.R_reads' h1.out
  have r2 := Kd.R_reads' h2.out
  exact ⟨A, c, B, k, rfl, Lib.hid r1.2.2, Lib.hid r2.2.2, h3, Lib.hid ⟨r1.2.1, r2.2.1⟩⟩
theorem SAR.sa {z : S24} {m : Int} {w w' : World} {e : Ending} (h : SAR z m w e w') : SA z m w e w' := by
  obtain ⟨A, c, rfl, h1, h2⟩ := h
  have r1 := Kd.R_reads' h1.out
  exact ⟨A, c, rfl, Lib.hid r1.2.2, h2, Lib.hid r1.2.1⟩
theorem applyR15 (s : S24) (d : S27) (A B G : Option Addr) (ca cb cg : Nat) (w : World) (hA : Kd.C k63 w A s.f1.length s.f1) (hB : Kd.C k63 w B d.f1.length d.f1) (hG : Kd.C Kd.string w G d.f2.length d.f2) (hca : s.f1.length ≤ ca) (hcb : d.f1.length ≤ cb) :
    Calls Try.prog 15 #[.agg #[.int .i64 s.f0, .slice A s.f1.length ca], .agg #[.int .i64 d.f0, .slice B d.f1.length cb, .slice G d.f2.length cg]] w fun e w' => SAR (applyS s d) (applyE s d) w e w' :=
  (apply15 s.f0 s.f1 d.f0 d.f1 d.f2 A B G ca cb cg w hA hB hG hca hcb).mono (fun _ _ h => h.sar)
theorem joinR20 (x y : S27) (A B A2 B2 : Option Addr) (c k c2 k2 : Nat) (w : World) (hA : Kd.C k63 w A x.f1.length x.f1) (hB : Kd.C Kd.string w B x.f2.length x.f2) (hA2 : Kd.C k63 w A2 y.f1.length y.f1) (hB2 : Kd.C Kd.string w B2 y.f2.length y.f2) :
    Calls Try.prog 20 #[.agg #[.int .i64 x.f0, .slice A x.f1.length c, .slice B x.f2.length k], .agg #[.int .i64 y.f0, .slice A2 y.f1.length c2, .slice B2 y.f2.length k2]] w fun e w' => DDR (joinD x y) (joinE x y) w e w' :=
  (join20 x.f0 x.f1 x.f2 y.f0 y.f1 y.f2 A B A2 B2 c k c2 k2 w hA hB hA2 hB2).mono (fun _ _ h => h.ddr)
theorem diffR22 (x y : S24) (A B : Option Addr) (ca cb : Nat) (w : World) (hA : Kd.C k63 w A x.f1.length x.f1) (hB : Kd.C k63 w B y.f1.length y.f1) :
    Calls Try.prog 22 #[.agg #[.int .i64 x.f0, .slice A x.f1.length ca], .agg #[.int .i64 y.f0, .slice B y.f1.length cb]] w fun e w' => DDR (diffD x y) (diffE x y) w e w' :=
  (diff22 x.f0 x.f1 y.f0 y.f1 A B ca cb w hA hB).mono (fun _ _ h => h.ddr)
end Go.Proofs.Ytpplnhefpcofoaa.PDeltaJoin
