/- The document's book: log. -/
import Derived.Test.YtomfknblehkocaaFC
namespace Go.Proofs.Ytomfknblehkocaa.C
open Go.RowKit Go.Proofs.YtomfknblehkocaaW.PrintWords Go.Proofs.YtomfknblehkocaaW.PrintLast
set_option linter.unusedVariables false
set_option linter.unusedSimpArgs false
def isRec (port : Int) (t : S109) : Bool := t.f1 == 0 && t.f0 == port
def recF (port : Int) (l : List S109) (a k : Nat) : List S45 := (((l.take k).drop a).filter (isRec port)).map (·.f2)
def Rk.log (r : Rk) (port : Int) : List S45 := recF port r.list (r.cop + 1).toNat (r.clo port).toNat ++ if r.mode = 3 then (r.list.getD (r.clo port).toNat z109).f3 else []
theorem recF_nil (port : Int) (l : List S109) (a : Nat) : recF port l a a = [] := by
  unfold recF
  rw [List.drop_eq_nil_of_le (by rw [List.length_take]; omega)]
  rfl
theorem recF_none (port : Int) (l : List S109) (a k : Nat) (h : k ≤ a) : recF port l a k = [] := by
  unfold recF
  rw [List.drop_eq_nil_of_le (by rw [List.length_take]; omega)]
  rfl
theorem recF_step (port : Int) (l : List S109) (a k : Nat) (z : S109) (h : k < l.length) (ha : a ≤ k) : recF port l a (k + 1) = recF port l a k ++ if isRec port (l.getD k z) = true then [(l.getD k z).f2] else [] := by
  unfold recF
  rw [List.take_succ_eq_append_getElem h, List.drop_append_of_le_length (by rw [List.length_take]; omega), List.filter_append, List.map_append, List.getD_eq_getElem?_getD, List.getElem?_eq_getElem h]
  congr 1
  show List.map _ (List.filter _ [l[k]]) = _
  simp only [List.filter_cons, List.filter_nil, Option.getD_some]
  split <;> rfl
theorem recF_len (port : Int) (l : List S109) (a k : Nat) : (recF port l a k).length ≤ l.length := by
  unfold recF
  rw [List.length_map]
  refine Nat.le_trans (List.length_filter_le _ _) ?_
  rw [List.length_drop, List.length_take]
  omega
theorem fixed_reads {w w' : World} {base : Nat} {ok : Nat → Prop} {v : Value} {xs : List S45} (h : Kd.R (Kd.fixed k45 w) 45 w' base ok v xs) (hb : Below w.heap.size w w') : ∃ A c, v = .slice A xs.length c ∧ xs.length ≤ c ∧ Kd.C k45 w' A xs.length xs := by
  obtain ⟨A, c, h1, h2, h3⟩ := Kd.R_reads h
  exact ⟨A, c, h1, h2, Kd.C_read (d := k45) (dm := Kd.fixed k45 w) rfl (fun x cs hk => k45.K_below hb hk) h3⟩
section
variable {w : World} {base : Nat} {own : Nat → Nat} {g : Nat} {r : Rk} {A : Option Addr} {c : Nat}
def LogIs (xs : List S45) (w : World) (e : Ending) (w' : World) : Prop := ∃ A c, e = .returned (.slice A xs.length c) ∧ xs.length ≤ c ∧ Kd.C k45 w' A xs.length xs ∧ Below w.heap.size w w'
theorem LogIs.mk' {xs : List S45} {w w' : World} {base : Nat} {ok : Nat → Prop} {v : Value} (h : Kd.R (Kd.fixed k45 w) 45 w' base ok v xs) (hb : Below w.heap.size w w') : LogIs xs w (.returned v) w' := by
  obtain ⟨A, c, rfl, h1, h2⟩ := fixed_reads h hb
  exact ⟨A, c, rfl, h1, h2, hb⟩
set_option maxRecDepth 100000 in
set_option maxHeartbeats 4000000 in
theorem log66 (h : RkAt w base own g r A c) (port : Int) (ha : 0 ≤ r.cop) (ht : 0 ≤ r.clo port) (hll : r.list.length ≤ 100000000) (hah : ∀ t ∈ r.list, t.f3.length ≤ 100000000) :
    Calls Try.prog 66 #[.pointer (some ⟨g, 0, none⟩), .int .i64 port] w fun e w' => LogIs (r.log port) w e w' := by
  obtain ⟨n, hn⟩ : ∃ n, n = r.list.length := ⟨_, rfl⟩
  have HBk := Lib.hid h.hb
  have HX := Lib.hid h
  have HC := Lib.hid (Kd.R_reads' h.hl).2.2
  have hmx : n ≤ 100000000 := by rw [hn]; exact hll
  have htn := (r.clo_ge port).2
  have hcn : r.cop < n := by
    rw [hn]
    unfold Rk.cop at ha ⊢
    split at ha
    · omega
    · rename_i h1
      rw [if_neg h1]
      split at ha
      · rename_i h2
        rw [if_pos h2]; omega
      · rename_i h2
        rw [if_neg h2]
        have hlp : ∀ (k p : Nat) (m : Int), m < r.list.length → copLoop r k p m < r.list.length := by
          intro k
          induction k with
          | zero => exact fun p m hm => hm
          | succ k ih =>
            intro p m hm
            unfold copLoop
            split
            · exact ih _ _ hm
            · split
              · omega
              · exact ih _ _ (by have := (r.clo_ge p).2; split <;> omega)
        exact hlp _ _ _ (by omega)
  have Hn := Lib.hid hn
  rw [← hn] at HBk htn
  have HCO := Lib.hid (copied63 h)
  obtain ⟨m, hm⟩ : ∃ m : Nat, r.cop = m := ⟨r.cop.toNat, by omega⟩
  obtain ⟨tn, htt⟩ : ∃ tn : Nat, r.clo port = tn := ⟨(r.clo port).toNat, by omega⟩
  rw [hm] at HCO
  have hct : tn < n := by omega
  have hmn : m < n := by omega
  have HLOG : Hid (r.log port = recF port r.list (m + 1) tn ++ if r.mode = 3 then (r.list.getD tn z109).f3 else []) := by
    unfold Rk.log
    rw [hm, htt, Int.toNat_natCast, show ((m : Int) + 1).toNat = m + 1 by omega]
    exact Lib.hid rfl
  have HT := Lib.hid htt
  have Hah := Lib.hid hah
  clear h ha ht hll htn hcn htt hm hah
  go_enter Try.func66, Try.ntmps66
  go_wp2_with (first
    | (go_at_call 63; refine HCO.out.mono ?_; rintro e w1 ⟨rfl, hb1⟩
       have HB1 : Hid (Below w.heap.size w w1) := hb1
       clear hb1)
    | (go_at_call 62; refine (closed62 (HX.out.below HB1.out) port).mono ?_; rintro e w2 ⟨he, hb2⟩
       rw [HT.out] at he
       subst he
       have HB2 : Hid (Below w.heap.size w w2) := HB1.out.trans (hb2.out.mono HB1.out.size)
       clear hb2))
  clear hn
  go_loopw [5, 8] (fun v5 v8 wr => ∃ k : Nat, m + 1 ≤ k ∧ (k ≤ m + 1 ∨ k ≤ tn) ∧ v8 = .int .i64 k ∧ Hid (Kd.R (Kd.fixed k45 w) 45 wr w.heap.size (fun _ => True) v5 (recF port r.list (m + 1) k)) ∧ Hid (Below w.heap.size w wr)) (fun _ v8 _ => tn - (intOf v8).toNat)
  case atStart => exact ⟨m + 1, Nat.le_refl _, .inl (Nat.le_refl _), by go_num, Lib.hid (by rw [recF_nil]; exact Kd.R_nil _ _ _ _ _), HB2⟩
  case round =>
    clear HB1 HB2
    obtain ⟨k, hk1, hk2, rfl, HO, HB⟩ := hrel
    have HBw : Hid (wr.heap[g]? = some (.cells #[.int .i64 r.mode, .int .i64 r.ports, .int .i64 r.back, .int .i64 r.last, .slice A n c, .bool r.handed] 99 (0, 0))) := (HB.out.block _ (blk_lt HBk.out)).trans HBk.out
    have c0 : wr.cell? ⟨g, 0, none⟩ = some (.int .i64 r.mode) := blk_at HBw.out 0 rfl
    have c4 : wr.cell? ⟨g, 4, none⟩ = some (.slice A n c) := blk_at HBw.out 4 rfl
    obtain ⟨Ao, mo, co, rfl⟩ := R_sliced HO.out
    by_cases hlt : k < tn
    · obtain ⟨ad, A6, c6, A7, c7, A8, c8, A10, c10, A11, c11, rfl, e0, e1, e2, e3, e4, e5, e6, e7, e8, e9, e10, e11, l6, g6, l7, g7, l8, g8, l10, g10, l11, g11⟩ := at_T109 HC.out (k : Int) (by omega) (by rw [← Hn.out]; omega)
      clear e8 e9 e10 e11 l8 g8 l10 g10 l11 g11
      have hst := recF_step port r.list (m + 1) k z109 (by rw [← Hn.out]; omega) hk1
      rw [show r.list.getD k z109 = rd_T109 r.list (k : Int) by unfold rd_T109; rw [Int.toNat_natCast]] at hst
      generalize rd_T109 r.list (k : Int) = y at *
      rw [Int.toNat_natCast] at e0 e1 e2 e3 e4 e5 e6 e7
      replace e0 := (HB.out.cell (World.block_lt_of_cell? w _ e0)).trans e0
      replace e1 := (HB.out.cell (World.block_lt_of_cell? w _ e1)).trans e1
      replace e2 := (HB.out.cell (World.block_lt_of_cell? w _ e2)).trans e2
      replace e3 := (HB.out.cell (World.block_lt_of_cell? w _ e3)).trans e3
      replace e4 := (HB.out.cell (World.block_lt_of_cell? w _ e4)).trans e4
      replace e5 := (HB.out.cell (World.block_lt_of_cell? w _ e5)).trans e5
      replace e6 := (HB.out.cell (World.block_lt_of_cell? w _ e6)).trans e6
      replace e7 := (HB.out.cell (World.block_lt_of_cell? w _ e7)).trans e7
      have HK := Lib.hid (k45_mk w y.f2 l6 g6 l7 g7)
      have HS := Lib.hid hst
      have HL : Hid ((recF port r.list (m + 1) k).length ≤ 100000000) := Nat.le_trans (recF_len _ _ _ _) (by rw [← Hn.out]; exact hmx)
      have i1 : (0 : Int) ≤ (k : Int) := by omega
      have i2 : (k : Int) < (n : Int) := by omega
      clear hst l6 g6 l7 g7
      by_cases h1 : y.f1 = 0
      · have t1 : (y.f1 == 0) = true := by simp [h1]
        by_cases h2 : y.f0 = port
        · have t2 : (y.f0 == port) = true := by simp [h2]
          have HE : Hid (recF port r.list (m + 1) (k + 1) = recF port r.list (m + 1) k ++ [y.f2]) := by rw [HS.out, if_pos (by unfold isRec; rw [t1, t2]; rfl)]; exact Lib.hid rfl
          have H1 := Lib.hid h1
          clear HS h1 h2
          go_wp2_with (first
            | (at_builtin; refine Kd.R_append (Kd.fixed k45 w) (w0 := wr) w.heap.size rfl (.tmp 42) (.tmp 51) 35 45 (.agg #[.string ⟨#[]⟩, .int .i64 0, .int .i64 0, .string ⟨#[]⟩, .slice none 0 0, .slice none 0 0]) 96 rfl Try.underlying35 info45 rfl (show 0 < 6 by decide) (by decide) (.slice Ao mo co) (recF port r.list (m + 1) k) y.f2 _ (fun _ => True) (fun _ => False) rfl rfl ?hp (fun _ hk => hk.elim) (fun _ _ => trivial) ?hO (Below.refl _ _) ?hS ?hl ?_
               case hp => exact HK.out
               case hO => exact HO.out
               case hS => exact HB.out.size
               case hl => have := HL.out; omega
               intro v1 w3 hO3 hB3 hg3 hat3
               have HO3 := Lib.hid hO3
               have HB3 : Hid (Below w.heap.size w w3) := HB.out.trans hB3
               clear hO3 hB3 hg3 hat3))
          go_roundw
          case rel => exact ⟨k + 1, by omega, by omega, by go_num, Lib.hid (HE.out ▸ HO3.out), HB3⟩
          case measure => simp [intOf]; omega
        · have t2 : (y.f0 == port) = false := beq_false_of_ne h2
          have HE : Hid (recF port r.list (m + 1) (k + 1) = recF port r.list (m + 1) k) := by rw [HS.out, if_neg (by unfold isRec; rw [t1, t2]; simp), List.append_nil]; exact Lib.hid rfl
          have H1 := Lib.hid h1
          clear HS h1 h2
          go_wp2
          go_roundw
          case rel => exact ⟨k + 1, by omega, by omega, by go_num, Lib.hid (HE.out ▸ HO.out), HB⟩
          case measure => simp [intOf]; omega
      · have t1 : (y.f1 == 0) = false := beq_false_of_ne h1
        have HE : Hid (recF port r.list (m + 1) (k + 1) = recF port r.list (m + 1) k) := by rw [HS.out, if_neg (by unfold isRec; rw [t1]; simp), List.append_nil]; exact Lib.hid rfl
        clear HS h1
        go_wp2
        go_roundw
        case rel => exact ⟨k + 1, by omega, by omega, by go_num, Lib.hid (HE.out ▸ HO.out), HB⟩
        case measure => simp [intOf]; omega
    · have HE : Hid (recF port r.list (m + 1) k = recF port r.list (m + 1) tn) := by
        rcases hk2 with h1 | h1
        · obtain rfl : k = m + 1 := by omega
          rw [recF_nil, recF_none _ _ _ _ (by omega)]; exact Lib.hid rfl
        · obtain rfl : k = tn := by omega
          exact Lib.hid rfl
      have HO' : Hid (Kd.R (Kd.fixed k45 w) 45 wr w.heap.size (fun _ => True) (.slice Ao mo co) (recF port r.list (m + 1) tn)) := HE.out ▸ HO.out
      clear HE HO
      by_cases hm3 : r.mode = 3
      · have m3 : (r.mode == 3) = true := by simp [hm3]
        have HLG : Hid (r.log port = recF port r.list (m + 1) tn ++ (r.list.getD tn z109).f3) := by rw [HLOG.out, if_pos hm3]; exact Lib.hid rfl
        obtain ⟨ad, A6, c6, A7, c7, A8, c8, A10, c10, A11, c11, rfl, e0, e1, e2, e3, e4, e5, e6, e7, e8, e9, e10, e11, l6, g6, l7, g7, l8, g8, l10, g10, l11, g11⟩ := at_T109 HC.out (tn : Int) (by omega) (by rw [← Hn.out]; omega)
        clear e0 e1 e2 e3 e4 e5 e6 e7 e9 e10 e11 l6 g6 l7 g7 l10 g10 l11 g11
        have hlen : (rd_T109 r.list (tn : Int)).f3.length ≤ 100000000 := Hah.out _ (getD_mem _ _ _ (by rw [Int.toNat_natCast, ← Hn.out]; exact hct))
        rw [show r.list.getD tn z109 = rd_T109 r.list (tn : Int) by unfold rd_T109; rw [Int.toNat_natCast]] at HLG
        generalize rd_T109 r.list (tn : Int) = y at *
        rw [Int.toNat_natCast] at e8
        replace e8 := (HB.out.cell (World.block_lt_of_cell? w _ e8)).trans e8
        have HR8 : Hid (ReadsRow (k45.K w) k45.sz wr A8 y.f3.length y.f3) := ReadsRow.imp_ g8 HB.out (fun _ _ hp => hp)
        have HLE := Lib.hid hlen
        have HL : Hid ((recF port r.list (m + 1) tn).length ≤ 100000000) := Nat.le_trans (recF_len _ _ _ _) (by rw [← Hn.out]; exact hmx)
        have i1 : (0 : Int) ≤ (tn : Int) := by omega
        have i2 : (tn : Int) < (n : Int) := by omega
        clear hm3 g8 l8 hlen
        go_wp2_with (first
          | (at_builtin; refine Kd.R_append_rows (Kd.fixed k45 w) (Rr := k45.K w) (w0 := wr) w.heap.size rfl (.tmp 58) (.tmp 66) 35 45 (.agg #[.string ⟨#[]⟩, .int .i64 0, .int .i64 0, .string ⟨#[]⟩, .slice none 0 0, .slice none 0 0]) 96 rfl Try.underlying35 info45 rfl (show 0 < 6 by decide) (by decide) (.slice Ao mo co) (recF port r.list (m + 1) tn) y.f3 A8 y.f3.length c8 (fun _ => True) (fun _ => False) rfl rfl ?hO ?hR (fun _ _ hp => hp) (fun _ hk => hk.elim) (fun _ _ => trivial) (Below.refl _ _) ?hS ?hl ?_
             case hO => exact HO'.out
             case hR => exact HR8.out
             case hS => exact HB.out.size
             case hl => have := HL.out; have := HLE.out; omega
             intro v1 w3 hO3 hB3 hg3 hat3
             have HO3 := Lib.hid hO3
             have HB3 : Hid (Below w.heap.size w w3) := HB.out.trans hB3
             clear hO3 hB3 hg3 hat3))
        go_ret
        rw [HLG.out]
        exact LogIs.mk' HO3.out HB3.out
      · have m3 : (r.mode == 3) = false := beq_false_of_ne hm3
        have HLG : Hid (r.log port = recF port r.list (m + 1) tn) := by rw [HLOG.out, if_neg hm3, List.append_nil]; exact Lib.hid rfl
        clear hm3
        go_wp2
        go_ret
        rw [HLG.out]
        exact LogIs.mk' HO'.out HB.out
end
end Go.Proofs.Ytomfknblehkocaa.C
