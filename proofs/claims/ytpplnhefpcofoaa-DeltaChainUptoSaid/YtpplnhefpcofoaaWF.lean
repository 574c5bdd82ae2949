/- DeltaChain, walked. -/
import Derived.Test.YtpplnhefpcofoaaWD
namespace Go.Proofs.Ytpplnhefpcofoaa.PDeltaJoin
open Go.RowKit Go.Proofs.YtpplnhefpcofoaaW.PrintWords Go.Proofs.YtpplnhefpcofoaaW.PrintLast
set_option linter.unusedVariables false
set_option linter.unusedSimpArgs false

def Law6 (w : World) (e : Ending) (w' : World) : Prop := e = .returned (.bool true) ∧ Below w.heap.size w w'
theorem litT2 (a b : S24) (A1 A2 : Option Addr) (c1 c2 : Nat) (w : World) (g : Nat) (h1 : Kd.C k63 w A1 a.f1.length a.f1) (h2 : Kd.C k63 w A2 b.f1.length b.f1) (l1 : a.f1.length ≤ c1) (l2 : b.f1.length ≤ c2)
    (hb : w.heap[g]? = some (.cells #[.int .i64 a.f0, .slice A1 a.f1.length c1, .int .i64 b.f0, .slice A2 b.f1.length c2] 24 (0, 0))) : Kd.C k24 w (some ⟨g, 0, none⟩) [a, b].length [a, b] := by
  refine lit_C k24 (inner := [.int .i64 a.f0, .slice A1 a.f1.length c1, .int .i64 b.f0, .slice A2 b.f1.length c2]) ?_ hb (by simp)
  have r1 := Reps.snoc (Reps.none _ k24.sz) (k24_mk w a l1 h1) rfl
  exact Reps.snoc r1 (k24_mk w b l2 h2) rfl
noncomputable def so (l : List S24) (i : Nat) : S24 := soundS (l.getD i z24)
theorem so_fit (l : List S24) (i : Nat) : FitS (so l i) := soundS_fit _
noncomputable def difs (l : List S24) (k : Nat) : List S27 := (List.range k).map fun i => diffD (so l i) (so l (i + 1))
theorem difs_zero (l : List S24) : difs l 0 = [] := rfl
theorem difs_succ (l : List S24) (k : Nat) : difs l (k + 1) = difs l k ++ [diffD (so l k) (so l (k + 1))] := by
  unfold difs
  rw [List.range_succ, List.map_append]
  rfl
theorem difs_len (l : List S24) (k : Nat) : (difs l k).length = k := by unfold difs; rw [List.length_map, List.length_range]
theorem difs_get (l : List S24) (k i : Nat) (h : i < k) : (difs l k).getD i z27 = diffD (so l i) (so l (i + 1)) := by
  unfold difs
  rw [List.getD_eq_getElem?_getD, List.getElem?_map, List.getElem?_range h]
  rfl
theorem info27 : (Try.prog.info? 27).map (fun i => (i.zero, i.size, i.bytes)) = some (some (.agg #[.int .i64 0, .slice none 0 0, .slice none 0 0]), 3, 56) := by kernel_rfl
theorem addr_add_zero (a : Addr) : a.add 0 = a := by cases a; rfl
/-- What is known of the joined one behind the i-th state. -/
structure ChainI (l : List S24) (i : Nat) (j : S27) : Prop where
  fit : chkD j.f0 j.f1 j.f2 = 0
  leads : Leads (so l 0) j (so l i)
theorem chain_first (l : List S24) : ChainI l 1 (diffD (so l 0) (so l 1)) := ⟨diffD_fit (so_fit l 0) (so_fit l 1), diffed_leads (diffed (so_fit l 0) (so_fit l 1)).2⟩
theorem chain_next {l : List S24} {i : Nat} {j : S27} (h : ChainI l i j) (he : joinE j (diffD (so l i) (so l (i + 1))) = 0) : ChainI l (i + 1) (joinD j (diffD (so l i) (so l (i + 1)))) := by
  refine ⟨joinD_fit he, ?_⟩
  rcases chain_step h.fit h.leads (so_fit l i) (so_fit l (i + 1)) with q | q
  · rw [he] at q; simp at q
  · exact q.2
theorem chain_err {l : List S24} {i : Nat} {j : S27} (h : ChainI l i j) (he : joinE j (diffD (so l i) (so l (i + 1))) ≠ 0) : joinE j (diffD (so l i) (so l (i + 1))) = 111 := by
  rcases chain_step h.fit h.leads (so_fit l i) (so_fit l (i + 1)) with q | q
  · exact q
  · exact absurd q.1 he
set_option maxRecDepth 100000 in
set_option maxHeartbeats 16000000 in
theorem deltaChain_walk (ls : List S24) (A : Option Addr) (c : Nat) (w : World) (hC : Kd.C k24 w A ls.length ls) (hs : ls.length ≤ 2000000) :
    Calls Try.prog 8 #[.slice A ls.length c] w fun e' w' => Law6 w e' w' := by
  have HC := Lib.hid hC
  have HX := Lib.hid (states10 ls A c w hC)
  obtain ⟨n0, hn0⟩ : ∃ n, n = ls.length := ⟨_, rfl⟩
  rw [← hn0] at HX hs ⊢
  have Hn0 := Lib.hid hn0
  clear hC hn0
  go_enter Try.func8, Try.ntmps8
  go_upto_if 20 with (first
    | (go_at_call 10; refine HX.out.mono ?_; rintro e' u1 ⟨bl, rfl, _, hb1⟩
       have HB1 : Hid (Below w.heap.size w u1) := hb1
       clear hb1)
    | (go_at_call 24; refine (plain24 u1).mono ?_; rintro e' u2 ⟨rfl, hb2⟩
       have HB2 : Hid (Below w.heap.size w u2) := HB1.out.trans (hb2.out.mono HB1.out.size)
       clear hb2))
  · go_ret
    exact ⟨rfl, HB1.out⟩
  clear HB1 HX
  go_cut [0] (fun v0 wx => ∃ (l : List S24) (A0 : Option Addr) (c0 : Nat), v0 = .slice A0 l.length c0 ∧ Hid (Kd.C k24 wx A0 l.length l) ∧ 2 ≤ l.length ∧ l.length ≤ 2000000 ∧ Hid (Below w.heap.size w wx))
  case first =>
    by_cases hn : n0 < 2
    · have h1 : (n0 : Int) < 2 := by omega
      go_wp2_with (fail)
      go_meet
      exact ⟨[⟨0, []⟩, ⟨1, []⟩], some ⟨u2.heap.size, 0, none⟩, 2, rfl, Lib.hid (litT2 ⟨0, []⟩ ⟨1, []⟩ none none 0 0 _ _ (Kd.C_nil _ _) (Kd.C_nil _ _) (Nat.le_refl _) (Nat.le_refl _) (blk_new u2 _)), by decide, by decide, Lib.hid (HB2.out.alloc HB2.out.size _)⟩
    · have h1 : ¬ (n0 : Int) < 2 := by omega
      go_wp2_with (fail)
      go_meet
      exact ⟨ls, A, c, by rw [Hn0.out], Lib.hid (Kd.C_below HC.out HB2.out), by rw [← Hn0.out]; omega, by rw [← Hn0.out]; exact hs, HB2⟩
  case rest =>
  clear HB2 HC Hn0 hs
  obtain ⟨l, A0, c0, rfl, HC, hl2, hlm, HB1⟩ := hcut
  obtain ⟨w1, hw1⟩ : ∃ w1, w1 = wc := ⟨_, rfl⟩
  rw [← hw1] at HC HB1 ⊢
  clear hw1
  obtain ⟨n, hn⟩ : ∃ n, n = l.length := ⟨_, rfl⟩
  rw [← hn] at hl2 hlm ⊢
  have Hn := Lib.hid hn
  clear hn
  have HB0 : Hid (Below w1.heap.size w1 w1) := Lib.hid (Below.refl _ _)
  go_wp2_with (fail)
  go_loopw [3, 4, 5, 6] (fun v3 v4 _ _ wr => ∃ kk : Nat, kk + 1 ≤ n ∧ v4 = .int .i64 ((kk + 1 : Nat) : Int) ∧ Hid (Kd.R k27 27 wr w1.heap.size (fun _ => True) v3 (difs l kk)) ∧ Hid (Below w1.heap.size w1 wr)) (fun _ v4 _ _ _ => n - (intOf v4).toNat)
  case atStart => exact ⟨0, by omega, rfl, Lib.hid (Kd.R_nil _ _ _ _ _), HB0⟩
  case round =>
    clear HB0
    obtain ⟨kk, hk, rfl, HO, HBk⟩ := hrel
    obtain ⟨k, hkk⟩ : ∃ k, k = kk + 1 := ⟨_, rfl⟩
    have Hkk : Hid (kk + 1 = k) := Lib.hid hkk.symm
    rw [← hkk] at hk ⊢
    obtain ⟨Ao, mo, co, rfl⟩ := R_sliced HO.out
    by_cases hlt : k < n
    · have hlt2 : (k : Int) < (n : Int) := by omega
      have i0 : (0 : Int) ≤ (kk : Int) := by omega
      have i1 : (kk : Int) < (n : Int) := by omega
      have i2 : (0 : Int) ≤ (k : Int) := by omega
      have i3 : (k : Int) - 1 = (kk : Int) := by omega
      have i4 : IntKind.i64.wrap (kk : Int) = (kk : Int) := by rw [IntKind.wrap_i64] <;> omega
      clear hkk
      obtain ⟨ad, P1, q1, hA1, e0, e1, hl1, hC1⟩ := at_T24 HC.out (kk : Int) i0 (by rw [← Hn.out]; exact i1)
      obtain ⟨ad', P2, q2, hA2, f0, f1, hl2', hC2⟩ := at_T24 HC.out (k : Int) i2 (by rw [← Hn.out]; exact hlt2)
      subst hA1
      obtain rfl : ad = ad' := by injection hA2
      clear hA2
      have hx1 : l.getD kk z24 = rd_T24 l (kk : Int) := by unfold rd_T24; rw [Int.toNat_natCast]
      have hx2 : l.getD k z24 = rd_T24 l (k : Int) := by unfold rd_T24; rw [Int.toNat_natCast]
      have hso1 : so l kk = soundS (rd_T24 l (kk : Int)) := by unfold so; rw [hx1]
      have hso2 : so l k = soundS (rd_T24 l (k : Int)) := by unfold so; rw [hx2]
      clear hx1 hx2
      generalize rd_T24 l (kk : Int) = s1 at *
      generalize rd_T24 l (k : Int) = s2 at *
      rw [Int.toNat_natCast] at e0 e1 f0 f1
      replace e0 := pw_cell_below HBk.out e0
      replace e1 := pw_cell_below HBk.out e1
      replace f0 := pw_cell_below HBk.out f0
      replace f1 := pw_cell_below HBk.out f1
      have HS1 : Hid (∀ W, Below w1.heap.size w1 W → Calls Try.prog 25 #[.agg #[.int .i64 s1.f0, .slice P1 s1.f1.length q1]] W fun e' w' => SR (so l kk) w1 W e' w') := Lib.hid (fun W h => by rw [hso1]; exact sound25 s1 P1 q1 w1 W hC1 hl1 h)
      have HS2 : Hid (∀ W, Below w1.heap.size w1 W → Calls Try.prog 25 #[.agg #[.int .i64 s2.f0, .slice P2 s2.f1.length q2]] W fun e' w' => SR (so l k) w1 W e' w') := Lib.hid (fun W h => by rw [hso2]; exact sound25 s2 P2 q2 w1 W hC2 hl2' h)
      obtain ⟨dd, hdd⟩ : ∃ dd, dd = diffD (so l kk) (so l (kk + 1)) := ⟨_, rfl⟩
      have XD0 : Hid (dd = diffD (so l kk) (so l k)) := Lib.hid (by rw [hdd, Hkk.out])
      have HDD := Lib.hid hdd.symm
      clear hdd
      have HDE : Hid (diffE (so l kk) (so l k) = 0) := Lib.hid (diffed (so_fit l kk) (so_fit l k)).1
      have HLen : Hid ((difs l kk).length ≤ 2000000) := Lib.hid (by rw [difs_len]; omega)
      clear hso1 hso2 hC1 hC2 hl1 hl2'
      generalize so l kk = x at HS1 XD0 HDE
      generalize so l k = y at HS2 XD0 HDE
      have HP22 : Hid (∀ W (A3 A4 : Option Addr) (c3 c4 : Nat), Below w1.heap.size w1 W → Kd.C k63 w1 A3 x.f1.length x.f1 → Kd.C k63 w1 A4 y.f1.length y.f1 → Calls Try.prog 22 #[.agg #[.int .i64 x.f0, .slice A3 x.f1.length c3], .agg #[.int .i64 y.f0, .slice A4 y.f1.length c4]] W fun e' w' => DDR (diffD x y) (diffE x y) W e' w') := Lib.hid (fun W A3 A4 c3 c4 h g1 g2 => diffR22 x y A3 A4 c3 c4 W (Kd.C_below g1 h) (Kd.C_below g2 h))
      rw [HDE.out] at HP22
      generalize hz : diffD x y = d at HP22 XD0
      have XD := XD0
      clear hz XD0 HDE
      go_upto_region 11 with (fail)
      refine start_ (n := 18) (S := (fun w' => w'.cell? (ad.add (kk * 2)) = some (.int .i64 s1.f0) ∧ w'.cell? ⟨(ad.add (kk * 2)).block, (ad.add (kk * 2)).off + 1, none⟩ = some (.slice P1 s1.f1.length q1) ∧ w'.cell? (ad.add (k * 2)) = some (.int .i64 s2.f0) ∧ w'.cell? ⟨(ad.add (k * 2)).block, (ad.add (k * 2)).off + 1, none⟩ = some (.slice P2 s2.f1.length q2))) (ds := [16]) #[false, false, false, false, false, false, false, false, false, false, false, false, false, false, false, false, false, false] (by kernel_rfl) rfl rfl ⟨e0, e1, f0, f1⟩ (fun hHeld => ?_)
      have HV0 : Hid (Below wr.heap.size wr wr.drew) := (Below.refl _ _).drew
      generalize wr.drew = V0 at hHeld HV0  ⊢
      refine pure_ (i := 0) (N := some 31) (v := ?_) (a' := ?_) #[true, false, false, false, false, false, false, false, false, false, false, false, false, false, false, false, false, false] rfl rfl (by kernel_rfl) (fun _ _ _ h => h) (Or.inl ⟨by rfl, ?_⟩) ?_ ?_
      rotate_left
      · intro w'
        go_simp
        with_reducible rfl
      rotate_left
      · simp only [Act.put, List.setIfInBounds_toArray, List.set_cons_zero, List.set_cons_succ]
        rfl
      refine pure_ (i := 1) (N := some 32) (v := ?_) (a' := ?_) #[true, true, false, false, false, false, false, false, false, false, false, false, false, false, false, false, false, false] rfl rfl (by kernel_rfl) (fun _ _ _ h => h) (Or.inl ⟨by rfl, ?_⟩) ?_ ?_
      rotate_left
      · intro w'
        go_simp
        with_reducible rfl
      rotate_left
      · simp only [Act.put, List.setIfInBounds_toArray, List.set_cons_zero, List.set_cons_succ]
        rfl
      refine pure_ (i := 2) (N := some 33) (v := ?_) (a' := ?_) #[true, true, true, false, false, false, false, false, false, false, false, false, false, false, false, false, false, false] rfl rfl (by kernel_rfl) (fun _ _ _ h => h) (Or.inl ⟨by rfl, ?_⟩) ?_ ?_
      rotate_left
      · intro w'
        go_simp
        with_reducible rfl
      rotate_left
      · simp only [Act.put, List.setIfInBounds_toArray, List.set_cons_zero, List.set_cons_succ]
        rfl
      refine pure_ (i := 3) (N := some 34) (v := ?_) (a' := ?_) #[true, true, true, true, false, false, false, false, false, false, false, false, false, false, false, false, false, false] rfl rfl (by kernel_rfl) (fun _ _ _ h => h) (Or.inl ⟨by rfl, ?_⟩) ?_ ?_
      rotate_left
      · intro w'
        go_simp
        with_reducible rfl
      rotate_left
      · simp only [Act.put, List.setIfInBounds_toArray, List.set_cons_zero, List.set_cons_succ]
        rfl
      refine take_ (i := 4) (N := some 35) (v := ?_) (a' := ?_) #[true, true, true, true, true, false, false, false, false, false, false, false, false, false, false, false, false, false] rfl rfl (by kernel_rfl) (fun _ _ _ h => h) (Or.inl ⟨by rfl, ?_⟩) hHeld ?_ ?_
      rotate_left
      · rintro w' ⟨s0, s1, s2, s3⟩
        go_simp
        with_reducible rfl
      rotate_left
      · simp only [Act.put, List.setIfInBounds_toArray, List.set_cons_zero, List.set_cons_succ]
        rfl
      refine pure_ (i := 6) (N := some 37) (v := ?_) (a' := ?_) #[true, true, true, true, true, false, true, false, false, false, false, false, false, false, false, false, false, false] rfl rfl (by kernel_rfl) (fun _ _ _ h => h) (Or.inl ⟨by rfl, ?_⟩) ?_ ?_
      rotate_left
      · intro w'
        go_simp
        with_reducible rfl
      rotate_left
      · simp only [Act.put, List.setIfInBounds_toArray, List.set_cons_zero, List.set_cons_succ]
        rfl
      refine pure_ (i := 7) (N := some 38) (v := ?_) (a' := ?_) #[true, true, true, true, true, false, true, true, false, false, false, false, false, false, false, false, false, false] rfl rfl (by kernel_rfl) (fun _ _ _ h => h) (Or.inl ⟨by rfl, ?_⟩) ?_ ?_
      rotate_left
      · intro w'
        go_simp
        with_reducible rfl
      rotate_left
      · simp only [Act.put, List.setIfInBounds_toArray, List.set_cons_zero, List.set_cons_succ]
        rfl
      refine pure_ (i := 8) (N := some 39) (v := ?_) (a' := ?_) #[true, true, true, true, true, false, true, true, true, false, false, false, false, false, false, false, false, false] rfl rfl (by kernel_rfl) (fun _ _ _ h => h) (Or.inl ⟨by rfl, ?_⟩) ?_ ?_
      rotate_left
      · intro w'
        go_simp
        with_reducible rfl
      rotate_left
      · simp only [Act.put, List.setIfInBounds_toArray, List.set_cons_zero, List.set_cons_succ]
        rfl
      refine take_ (i := 9) (N := some 40) (v := ?_) (a' := ?_) #[true, true, true, true, true, false, true, true, true, true, false, false, false, false, false, false, false, false] rfl rfl (by kernel_rfl) (fun _ _ _ h => h) (Or.inl ⟨by rfl, ?_⟩) hHeld ?_ ?_
      rotate_left
      · rintro w' ⟨s0, s1, s2, s3⟩
        go_simp
        with_reducible rfl
      rotate_left
      · simp only [Act.put, List.setIfInBounds_toArray, List.set_cons_zero, List.set_cons_succ]
        rfl
      refine two_ (i := 5) (j := 15) (Ni := some 36) (Nj := some 5) #[true, true, true, true, true, true, true, true, true, true, false, false, false, false, false, false, false, false] #[true, true, true, true, true, false, true, true, true, true, false, false, false, false, false, true, false, false] rfl rfl rfl rfl (by kernel_rfl) (by decide) (by decide) (fun K hK => ?_) (fun K hK => ?_)
      · refine goes_ Try.func25 (by kernel_rfl) rfl #[.agg #[.int .i64 s1.f0, .slice P1 s1.f1.length q1]] (by rfl) rfl rfl (by simp only [List.map_toArray, List.map_cons, List.map_nil]; rfl) ?_
        refine ((HS1.out V0 (HBk.out.trans (HV0.out.mono HBk.out.size)))).mono ?_
        rintro e' V1 ⟨A3, c3, rfl, C3, hb, L3⟩
        refine ⟨_, rfl, ?_⟩
        have HV1 : Hid (Below wr.heap.size wr V1) := HV0.out.trans (hb.out.mono HV0.out.size)
        refine hK.out _ _ ⟨pw_cell_below hb.out hHeld.1, pw_cell_below hb.out hHeld.2.1, pw_cell_below hb.out hHeld.2.2.1, pw_cell_below hb.out hHeld.2.2.2⟩ (fun hHeld => ?_)
        clear hK K hb
        refine norm_ (a' := ?_) ?_ ?_
        rotate_left
        · show Act.put _ (some 36) _ = _
          simp only [Act.put, List.setIfInBounds_toArray, List.set_cons_zero, List.set_cons_succ]
          rfl
        refine two_ (i := 10) (j := 15) (Ni := some 41) (Nj := some 5) #[true, true, true, true, true, true, true, true, true, true, true, false, false, false, false, false, false, false] #[true, true, true, true, true, true, true, true, true, true, false, false, false, false, false, true, false, false] rfl rfl rfl rfl (by kernel_rfl) (by decide) (by decide) (fun K hK => ?_) (fun K hK => ?_)
        · refine goes_ Try.func25 (by kernel_rfl) rfl #[.agg #[.int .i64 s2.f0, .slice P2 s2.f1.length q2]] (by rfl) rfl rfl (by simp only [List.map_toArray, List.map_cons, List.map_nil]; rfl) ?_
          refine ((HS2.out V1 (HBk.out.trans (HV1.out.mono HBk.out.size)))).mono ?_
          rintro e' V2 ⟨A4, c4, rfl, C4, hb, L4⟩
          refine ⟨_, rfl, ?_⟩
          have HV2 : Hid (Below wr.heap.size wr V2) := HV1.out.trans (hb.out.mono HV1.out.size)
          refine hK.out _ _ ⟨pw_cell_below hb.out hHeld.1, pw_cell_below hb.out hHeld.2.1, pw_cell_below hb.out hHeld.2.2.1, pw_cell_below hb.out hHeld.2.2.2⟩ (fun hHeld => ?_)
          clear hK K hb
          refine norm_ (a' := ?_) ?_ ?_
          rotate_left
          · show Act.put _ (some 41) _ = _
            simp only [Act.put, List.setIfInBounds_toArray, List.set_cons_zero, List.set_cons_succ]
            rfl
          refine two_ (i := 11) (j := 15) (Ni := some 42) (Nj := some 5) #[true, true, true, true, true, true, true, true, true, true, true, true, false, false, false, false, false, false] #[true, true, true, true, true, true, true, true, true, true, true, false, false, false, false, true, false, false] rfl rfl rfl rfl (by kernel_rfl) (by decide) (by decide) (fun K hK => ?_) (fun K hK => ?_)
          · refine goes_ Try.func22 (by kernel_rfl) rfl #[.agg #[.int .i64 x.f0, .slice A3 x.f1.length c3], .agg #[.int .i64 y.f0, .slice A4 y.f1.length c4]] (by rfl) rfl rfl (by simp only [List.map_toArray, List.map_cons, List.map_nil]; rfl) ?_
            refine ((HP22.out V2 A3 A4 c3 c4 (HBk.out.trans (HV2.out.mono HBk.out.size)) C3.out C4.out)).mono ?_
            rintro e' V3 ⟨A5, c5, B5, k5, rfl, R5, G5, hb⟩
            refine ⟨_, rfl, ?_⟩
            have HV3 : Hid (Below wr.heap.size wr V3) := HV2.out.trans (hb.out.mono HV2.out.size)
            replace R5 := Lib.hid (Kd.R_lower R5.out HV2.out.size)
            replace G5 := Lib.hid (Kd.R_lower G5.out HV2.out.size)
            refine hK.out _ _ ⟨pw_cell_below hb.out hHeld.1, pw_cell_below hb.out hHeld.2.1, pw_cell_below hb.out hHeld.2.2.1, pw_cell_below hb.out hHeld.2.2.2⟩ (fun hHeld => ?_)
            clear hK K hb
            refine norm_ (a' := ?_) ?_ ?_
            rotate_left
            · show Act.put _ (some 42) _ = _
              simp only [Act.put, List.setIfInBounds_toArray, List.set_cons_zero, List.set_cons_succ]
              rfl
            refine pure_ (i := 12) (N := some 30) (v := ?_) (a' := ?_) #[true, true, true, true, true, true, true, true, true, true, true, true, true, false, false, false, false, false] rfl rfl (by kernel_rfl) (fun _ _ _ h => h) (Or.inl ⟨by rfl, ?_⟩) ?_ ?_
            rotate_left
            · intro w'
              go_simp
              with_reducible rfl
            rotate_left
            · simp only [Act.put, List.setIfInBounds_toArray, List.set_cons_zero, List.set_cons_succ]
              rfl
            refine pure_ (i := 13) (N := some 43) (v := ?_) (a' := ?_) #[true, true, true, true, true, true, true, true, true, true, true, true, true, true, false, false, false, false] rfl rfl (by kernel_rfl) (fun _ _ _ h => h) (Or.inl ⟨by rfl, ?_⟩) ?_ ?_
            rotate_left
            · intro w'
              go_simp
              with_reducible rfl
            rotate_left
            · simp only [Act.put, List.setIfInBounds_toArray, List.set_cons_zero, List.set_cons_succ]
              rfl
            refine pure_ (i := 14) (N := some 44) (v := ?_) (a' := ?_) #[true, true, true, true, true, true, true, true, true, true, true, true, true, true, true, false, false, false] rfl rfl (by kernel_rfl) (fun _ _ _ h => h) (Or.inl ⟨by rfl, ?_⟩) ?_ ?_
            rotate_left
            · intro w'
              go_simp
              with_reducible rfl
            rotate_left
            · simp only [Act.put, List.setIfInBounds_toArray, List.set_cons_zero, List.set_cons_succ]
              rfl
            refine one_ (i := 15) (N := some 5) #[true, true, true, true, true, true, true, true, true, true, true, true, true, true, true, true, false, false] rfl rfl (by kernel_rfl) (by decide) (fun K hK => ?_)
            obtain ⟨nb, hnb⟩ : ∃ nb, nb = V3.heap.size := ⟨_, rfl⟩
            refine value_ (w1 := (V3.alloc (.cells #[.int .i64 0, .slice none 0 0, .slice none 0 0] 27))) (v := .pointer (some ⟨nb, 0, none⟩)) (by rfl) rfl (by rw [hnb]; go_simp) ?_
            have hal : Hid (Below V3.heap.size V3 (V3.alloc (.cells #[.int .i64 0, .slice none 0 0, .slice none 0 0] 27))) := Lib.hid ((Below.refl _ _).alloc (Nat.le_refl _) _)
            have HN9 : Hid ((V3.alloc (.cells #[.int .i64 0, .slice none 0 0, .slice none 0 0] 27)).heap[nb]? = some (.cells #[.int .i64 0, .slice none 0 0, .slice none 0 0] 27 (0, 0))) := by rw [hnb]; exact Lib.hid (blk_new _ _)
            have hnb9 : Hid (wr.heap.size ≤ nb) := by rw [hnb]; exact Lib.hid HV3.out.size
            refine hK.out _ _ ⟨pw_cell_below hal.out hHeld.1, pw_cell_below hal.out hHeld.2.1, pw_cell_below hal.out hHeld.2.2.1, pw_cell_below hal.out hHeld.2.2.2⟩ (fun hHeld => ?_)
            clear hK K hnb
            generalize (V3.alloc (.cells #[.int .i64 0, .slice none 0 0, .slice none 0 0] 27)) = V4 at hHeld hal HN9 ⊢
            replace R5 := Lib.hid (Kd.R_below R5.out hal.out)
            replace G5 := Lib.hid (Kd.R_below G5.out hal.out)
            have HV4 : Hid (Below wr.heap.size wr V4) := HV3.out.trans (hal.out.mono HV3.out.size)
            clear hal
            refine norm_ (a' := ?_) ?_ ?_
            rotate_left
            · show Act.put _ (some 5) _ = _
              simp only [Act.put, List.setIfInBounds_toArray, List.set_cons_zero, List.set_cons_succ]
              rfl
            refine last_ (i := 16) (N := none) #[true, true, true, true, true, true, true, true, true, true, true, true, true, true, true, true, true, false] rfl rfl (by kernel_rfl) (by decide) (fun K hK => ?_)
            have x0 : V4.cell? ⟨nb, 0, none⟩ = some (.int .i64 0) := blk_at HN9.out 0 rfl
            have z0 : V4.frozen? ⟨nb, 0, none⟩ = false := blk_frozen HN9.out 0
            have x1 : V4.cell? ⟨nb, 1, none⟩ = some (.slice none 0 0) := blk_at HN9.out 1 rfl
            have z1 : V4.frozen? ⟨nb, 1, none⟩ = false := blk_frozen HN9.out 1
            have x2 : V4.cell? ⟨nb, 2, none⟩ = some (.slice none 0 0) := blk_at HN9.out 2 rfl
            have z2 : V4.frozen? ⟨nb, 2, none⟩ = false := blk_frozen HN9.out 2
            refine skip_ (w1 := (((V4.setCell ⟨nb, 0, none⟩ (.int .i64 d.f0)).setCell ⟨nb, 1, none⟩ (.slice A5 d.f1.length c5)).setCell ⟨nb, 2, none⟩ (.slice B5 d.f2.length k5))) (by rfl) rfl (by go_simp) ?_
            refine hK.out _ _ ?_
            have R5' := Lib.hid (Kd.R_set (Kd.R_set (Kd.R_set R5.out HN9.out (by decide) 0 (.int .i64 d.f0)) (blk_put HN9.out 0 (.int .i64 d.f0) rfl) (by decide) 1 (.slice A5 d.f1.length c5)) (blk_put (blk_put HN9.out 0 (.int .i64 d.f0) rfl) 1 (.slice A5 d.f1.length c5) rfl) (by decide) 2 (.slice B5 d.f2.length k5))
            have G5' := Lib.hid (Kd.R_set (Kd.R_set (Kd.R_set G5.out HN9.out (by decide) 0 (.int .i64 d.f0)) (blk_put HN9.out 0 (.int .i64 d.f0) rfl) (by decide) 1 (.slice A5 d.f1.length c5)) (blk_put (blk_put HN9.out 0 (.int .i64 d.f0) rfl) 1 (.slice A5 d.f1.length c5) rfl) (by decide) 2 (.slice B5 d.f2.length k5))
            have HN9' := Lib.hid (blk_put (blk_put (blk_put HN9.out 0 (.int .i64 d.f0) rfl) 1 (.slice A5 d.f1.length c5) rfl) 2 (.slice B5 d.f2.length k5) rfl)
            have HB9 : Hid (Below wr.heap.size wr (((V4.setCell ⟨nb, 0, none⟩ (.int .i64 d.f0)).setCell ⟨nb, 1, none⟩ (.slice A5 d.f1.length c5)).setCell ⟨nb, 2, none⟩ (.slice B5 d.f2.length k5))) := Lib.hid (((HV4.out.setCell (p := ⟨nb, 0, none⟩) hnb9.out _).setCell (p := ⟨nb, 1, none⟩) hnb9.out _).setCell (p := ⟨nb, 2, none⟩) hnb9.out _)
            clear hK K hHeld x0 z0 x1 z1 x2 z2 R5 G5 HN9 HV0 HV1 HV2 HV3 HV4
            generalize (((V4.setCell ⟨nb, 0, none⟩ (.int .i64 d.f0)).setCell ⟨nb, 1, none⟩ (.slice A5 d.f1.length c5)).setCell ⟨nb, 2, none⟩ (.slice B5 d.f2.length k5)) = W9 at *
            refine pure_ (i := 17) (N := some 6) (v := ?_) (a' := ?_) #[true, true, true, true, true, true, true, true, true, true, true, true, true, true, true, true, true, true] rfl rfl (by kernel_rfl) (fun _ _ _ h => h) (Or.inl ⟨by rfl, ?_⟩) ?_ ?_
            rotate_left
            · intro w'
              go_simp
              with_reducible rfl
            rotate_left
            · simp only [Act.put, List.setIfInBounds_toArray, List.set_cons_zero, List.set_cons_succ]
              rfl
            refine done_ (by kernel_rfl) ?_
            have HBe : Hid (Below w1.heap.size w1 W9) := HBk.out.trans (HB9.out.mono HBk.out.size)
            have HO9 := Lib.hid (Kd.R_below HO.out HB9.out)
            have HZ9 : Hid (w1.heap.size ≤ W9.heap.size) := Lib.hid HBe.out.size
            have HK9 : Hid (k27.M W9 w1.heap.size (fun q => wr.heap.size ≤ q) d [.int .i64 d.f0, .slice A5 d.f1.length c5, .slice B5 d.f2.length k5]) := Lib.hid (k27_mkM W9 w1.heap.size _ d (Kd.R_lower (Kd.R_mono (Kd.R_bound R5'.out) (fun q hq => hq.2.1)) HBk.out.size) (Kd.R_lower (Kd.R_mono (Kd.R_bound G5'.out) (fun q hq => hq.2.1)) HBk.out.size))
            have q0 : W9.cell? ⟨nb, 0, none⟩ = some (.int .i64 d.f0) := blk_at HN9'.out 0 rfl
            have q1' : W9.cell? ⟨nb, 1, none⟩ = some (.slice A5 d.f1.length c5) := blk_at HN9'.out 1 rfl
            have q2' : W9.cell? ⟨nb, 2, none⟩ = some (.slice B5 d.f2.length k5) := blk_at HN9'.out 2 rfl
            clear HN9' hnb9
            go_wp2_with (at_builtin; refine Kd.R_append k27 (w0 := W9) w1.heap.size rfl (.tmp 47) (.tmp 49) 53 27 (.agg #[.int .i64 0, .slice none 0 0, .slice none 0 0]) 56 rfl Try.underlying53 info27 rfl (show 0 < 3 by decide) (by decide) (.slice Ao mo co) (difs l kk) d _ (fun _ => True) (fun q => wr.heap.size ≤ q) rfl rfl ?hp ?hok (fun _ _ => trivial) HO9.out (Below.refl _ _) ?hS ?hl ?_
                         case hp => exact HK9.out
                         case hok => exact fun q hq => ⟨trivial, fun he => by have := Kd.R_lt HO.out q he.symm; omega⟩
                         case hS => exact HZ9.out
                         case hl => have := HLen.out; omega
                         intro v1 w3 hO3 hB3 hg3 hat3
                         have HO3 := Lib.hid hO3
                         have HB3 : Hid (Below w1.heap.size w1 w3) := HBe.out.trans hB3
                         clear hO3 hB3 hg3 hat3)
            go_roundw
            case rel => exact ⟨k, by omega, by go_num, by rw [← Hkk.out, difs_succ, HDD.out, XD.out]; exact HO3, HB3⟩
            case measure => simp [intOf]; omega
          · obtain ⟨nb, hnb⟩ : ∃ nb, nb = V2.heap.size := ⟨_, rfl⟩
            refine value_ (w1 := (V2.alloc (.cells #[.int .i64 0, .slice none 0 0, .slice none 0 0] 27))) (v := .pointer (some ⟨nb, 0, none⟩)) (by rfl) rfl (by rw [hnb]; go_simp) ?_
            have hal : Hid (Below V2.heap.size V2 (V2.alloc (.cells #[.int .i64 0, .slice none 0 0, .slice none 0 0] 27))) := Lib.hid ((Below.refl _ _).alloc (Nat.le_refl _) _)
            have HN9 : Hid ((V2.alloc (.cells #[.int .i64 0, .slice none 0 0, .slice none 0 0] 27)).heap[nb]? = some (.cells #[.int .i64 0, .slice none 0 0, .slice none 0 0] 27 (0, 0))) := by rw [hnb]; exact Lib.hid (blk_new _ _)
            have hnb9 : Hid (wr.heap.size ≤ nb) := by rw [hnb]; exact Lib.hid HV2.out.size
            refine hK.out _ _ ⟨pw_cell_below hal.out hHeld.1, pw_cell_below hal.out hHeld.2.1, pw_cell_below hal.out hHeld.2.2.1, pw_cell_below hal.out hHeld.2.2.2⟩ (fun hHeld => ?_)
            clear hK K hnb
            generalize (V2.alloc (.cells #[.int .i64 0, .slice none 0 0, .slice none 0 0] 27)) = V3 at hHeld hal HN9 ⊢
            have HV3 : Hid (Below wr.heap.size wr V3) := HV2.out.trans (hal.out.mono HV2.out.size)
            clear hal
            refine norm_ (a' := ?_) ?_ ?_
            rotate_left
            · show Act.put _ (some 5) _ = _
              simp only [Act.put, List.setIfInBounds_toArray, List.set_cons_zero, List.set_cons_succ]
              rfl
            refine one_ (i := 11) (N := some 42) #[true, true, true, true, true, true, true, true, true, true, true, true, false, false, false, true, false, false] rfl rfl (by kernel_rfl) (by decide) (fun K hK => ?_)
            refine goes_ Try.func22 (by kernel_rfl) rfl #[.agg #[.int .i64 x.f0, .slice A3 x.f1.length c3], .agg #[.int .i64 y.f0, .slice A4 y.f1.length c4]] (by rfl) rfl rfl (by simp only [List.map_toArray, List.map_cons, List.map_nil]; rfl) ?_
            refine ((HP22.out V3 A3 A4 c3 c4 (HBk.out.trans (HV3.out.mono HBk.out.size)) C3.out C4.out)).mono ?_
            rintro e' V4 ⟨A5, c5, B5, k5, rfl, R5, G5, hb⟩
            refine ⟨_, rfl, ?_⟩
            replace HN9 := Lib.hid (blk_below HN9.out hb.out)
            have HV4 : Hid (Below wr.heap.size wr V4) := HV3.out.trans (hb.out.mono HV3.out.size)
            replace R5 := Lib.hid (Kd.R_lower R5.out HV3.out.size)
            replace G5 := Lib.hid (Kd.R_lower G5.out HV3.out.size)
            refine hK.out _ _ ⟨pw_cell_below hb.out hHeld.1, pw_cell_below hb.out hHeld.2.1, pw_cell_below hb.out hHeld.2.2.1, pw_cell_below hb.out hHeld.2.2.2⟩ (fun hHeld => ?_)
            clear hK K hb
            refine norm_ (a' := ?_) ?_ ?_
            rotate_left
            · show Act.put _ (some 42) _ = _
              simp only [Act.put, List.setIfInBounds_toArray, List.set_cons_zero, List.set_cons_succ]
              rfl
            refine pure_ (i := 12) (N := some 30) (v := ?_) (a' := ?_) #[true, true, true, true, true, true, true, true, true, true, true, true, true, false, false, true, false, false] rfl rfl (by kernel_rfl) (fun _ _ _ h => h) (Or.inl ⟨by rfl, ?_⟩) ?_ ?_
            rotate_left
            · intro w'
              go_simp
              with_reducible rfl
            rotate_left
            · simp only [Act.put, List.setIfInBounds_toArray, List.set_cons_zero, List.set_cons_succ]
              rfl
            refine pure_ (i := 13) (N := some 43) (v := ?_) (a' := ?_) #[true, true, true, true, true, true, true, true, true, true, true, true, true, true, false, true, false, false] rfl rfl (by kernel_rfl) (fun _ _ _ h => h) (Or.inl ⟨by rfl, ?_⟩) ?_ ?_
            rotate_left
            · intro w'
              go_simp
              with_reducible rfl
            rotate_left
            · simp only [Act.put, List.setIfInBounds_toArray, List.set_cons_zero, List.set_cons_succ]
              rfl
            refine pure_ (i := 14) (N := some 44) (v := ?_) (a' := ?_) #[true, true, true, true, true, true, true, true, true, true, true, true, true, true, true, true, false, false] rfl rfl (by kernel_rfl) (fun _ _ _ h => h) (Or.inl ⟨by rfl, ?_⟩) ?_ ?_
            rotate_left
            · intro w'
              go_simp
              with_reducible rfl
            rotate_left
            · simp only [Act.put, List.setIfInBounds_toArray, List.set_cons_zero, List.set_cons_succ]
              rfl
            refine last_ (i := 16) (N := none) #[true, true, true, true, true, true, true, true, true, true, true, true, true, true, true, true, true, false] rfl rfl (by kernel_rfl) (by decide) (fun K hK => ?_)
            have x0 : V4.cell? ⟨nb, 0, none⟩ = some (.int .i64 0) := blk_at HN9.out 0 rfl
            have z0 : V4.frozen? ⟨nb, 0, none⟩ = false := blk_frozen HN9.out 0
            have x1 : V4.cell? ⟨nb, 1, none⟩ = some (.slice none 0 0) := blk_at HN9.out 1 rfl
            have z1 : V4.frozen? ⟨nb, 1, none⟩ = false := blk_frozen HN9.out 1
            have x2 : V4.cell? ⟨nb, 2, none⟩ = some (.slice none 0 0) := blk_at HN9.out 2 rfl
            have z2 : V4.frozen? ⟨nb, 2, none⟩ = false := blk_frozen HN9.out 2
            refine skip_ (w1 := (((V4.setCell ⟨nb, 0, none⟩ (.int .i64 d.f0)).setCell ⟨nb, 1, none⟩ (.slice A5 d.f1.length c5)).setCell ⟨nb, 2, none⟩ (.slice B5 d.f2.length k5))) (by rfl) rfl (by go_simp) ?_
            refine hK.out _ _ ?_
            have R5' := Lib.hid (Kd.R_set (Kd.R_set (Kd.R_set R5.out HN9.out (by decide) 0 (.int .i64 d.f0)) (blk_put HN9.out 0 (.int .i64 d.f0) rfl) (by decide) 1 (.slice A5 d.f1.length c5)) (blk_put (blk_put HN9.out 0 (.int .i64 d.f0) rfl) 1 (.slice A5 d.f1.length c5) rfl) (by decide) 2 (.slice B5 d.f2.length k5))
            have G5' := Lib.hid (Kd.R_set (Kd.R_set (Kd.R_set G5.out HN9.out (by decide) 0 (.int .i64 d.f0)) (blk_put HN9.out 0 (.int .i64 d.f0) rfl) (by decide) 1 (.slice A5 d.f1.length c5)) (blk_put (blk_put HN9.out 0 (.int .i64 d.f0) rfl) 1 (.slice A5 d.f1.length c5) rfl) (by decide) 2 (.slice B5 d.f2.length k5))
            have HN9' := Lib.hid (blk_put (blk_put (blk_put HN9.out 0 (.int .i64 d.f0) rfl) 1 (.slice A5 d.f1.length c5) rfl) 2 (.slice B5 d.f2.length k5) rfl)
            have HB9 : Hid (Below wr.heap.size wr (((V4.setCell ⟨nb, 0, none⟩ (.int .i64 d.f0)).setCell ⟨nb, 1, none⟩ (.slice A5 d.f1.length c5)).setCell ⟨nb, 2, none⟩ (.slice B5 d.f2.length k5))) := Lib.hid (((HV4.out.setCell (p := ⟨nb, 0, none⟩) hnb9.out _).setCell (p := ⟨nb, 1, none⟩) hnb9.out _).setCell (p := ⟨nb, 2, none⟩) hnb9.out _)
            clear hK K hHeld x0 z0 x1 z1 x2 z2 R5 G5 HN9 HV0 HV1 HV2 HV3 HV4
            generalize (((V4.setCell ⟨nb, 0, none⟩ (.int .i64 d.f0)).setCell ⟨nb, 1, none⟩ (.slice A5 d.f1.length c5)).setCell ⟨nb, 2, none⟩ (.slice B5 d.f2.length k5)) = W9 at *
            refine pure_ (i := 17) (N := some 6) (v := ?_) (a' := ?_) #[true, true, true, true, true, true, true, true, true, true, true, true, true, true, true, true, true, true] rfl rfl (by kernel_rfl) (fun _ _ _ h => h) (Or.inl ⟨by rfl, ?_⟩) ?_ ?_
            rotate_left
            · intro w'
              go_simp
              with_reducible rfl
            rotate_left
            · simp only [Act.put, List.setIfInBounds_toArray, List.set_cons_zero, List.set_cons_succ]
              rfl
            refine done_ (by kernel_rfl) ?_
            have HBe : Hid (Below w1.heap.size w1 W9) := HBk.out.trans (HB9.out.mono HBk.out.size)
            have HO9 := Lib.hid (Kd.R_below HO.out HB9.out)
            have HZ9 : Hid (w1.heap.size ≤ W9.heap.size) := Lib.hid HBe.out.size
            have HK9 : Hid (k27.M W9 w1.heap.size (fun q => wr.heap.size ≤ q) d [.int .i64 d.f0, .slice A5 d.f1.length c5, .slice B5 d.f2.length k5]) := Lib.hid (k27_mkM W9 w1.heap.size _ d (Kd.R_lower (Kd.R_mono (Kd.R_bound R5'.out) (fun q hq => hq.2.1)) HBk.out.size) (Kd.R_lower (Kd.R_mono (Kd.R_bound G5'.out) (fun q hq => hq.2.1)) HBk.out.size))
            have q0 : W9.cell? ⟨nb, 0, none⟩ = some (.int .i64 d.f0) := blk_at HN9'.out 0 rfl
            have q1' : W9.cell? ⟨nb, 1, none⟩ = some (.slice A5 d.f1.length c5) := blk_at HN9'.out 1 rfl
            have q2' : W9.cell? ⟨nb, 2, none⟩ = some (.slice B5 d.f2.length k5) := blk_at HN9'.out 2 rfl
            clear HN9' hnb9
            go_wp2_with (at_builtin; refine Kd.R_append k27 (w0 := W9) w1.heap.size rfl (.tmp 47) (.tmp 49) 53 27 (.agg #[.int .i64 0, .slice none 0 0, .slice none 0 0]) 56 rfl Try.underlying53 info27 rfl (show 0 < 3 by decide) (by decide) (.slice Ao mo co) (difs l kk) d _ (fun _ => True) (fun q => wr.heap.size ≤ q) rfl rfl ?hp ?hok (fun _ _ => trivial) HO9.out (Below.refl _ _) ?hS ?hl ?_
                         case hp => exact HK9.out
                         case hok => exact fun q hq => ⟨trivial, fun he => by have := Kd.R_lt HO.out q he.symm; omega⟩
                         case hS => exact HZ9.out
                         case hl => have := HLen.out; omega
                         intro v1 w3 hO3 hB3 hg3 hat3
                         have HO3 := Lib.hid hO3
                         have HB3 : Hid (Below w1.heap.size w1 w3) := HBe.out.trans hB3
                         clear hO3 hB3 hg3 hat3)
            go_roundw
            case rel => exact ⟨k, by omega, by go_num, by rw [← Hkk.out, difs_succ, HDD.out, XD.out]; exact HO3, HB3⟩
            case measure => simp [intOf]; omega
        · obtain ⟨nb, hnb⟩ : ∃ nb, nb = V1.heap.size := ⟨_, rfl⟩
          refine value_ (w1 := (V1.alloc (.cells #[.int .i64 0, .slice none 0 0, .slice none 0 0] 27))) (v := .pointer (some ⟨nb, 0, none⟩)) (by rfl) rfl (by rw [hnb]; go_simp) ?_
          have hal : Hid (Below V1.heap.size V1 (V1.alloc (.cells #[.int .i64 0, .slice none 0 0, .slice none 0 0] 27))) := Lib.hid ((Below.refl _ _).alloc (Nat.le_refl _) _)
          have HN9 : Hid ((V1.alloc (.cells #[.int .i64 0, .slice none 0 0, .slice none 0 0] 27)).heap[nb]? = some (.cells #[.int .i64 0, .slice none 0 0, .slice none 0 0] 27 (0, 0))) := by rw [hnb]; exact Lib.hid (blk_new _ _)
          have hnb9 : Hid (wr.heap.size ≤ nb) := by rw [hnb]; exact Lib.hid HV1.out.size
          refine hK.out _ _ ⟨pw_cell_below hal.out hHeld.1, pw_cell_below hal.out hHeld.2.1, pw_cell_below hal.out hHeld.2.2.1, pw_cell_below hal.out hHeld.2.2.2⟩ (fun hHeld => ?_)
          clear hK K hnb
          generalize (V1.alloc (.cells #[.int .i64 0, .slice none 0 0, .slice none 0 0] 27)) = V2 at hHeld hal HN9 ⊢
          have HV2 : Hid (Below wr.heap.size wr V2) := HV1.out.trans (hal.out.mono HV1.out.size)
          clear hal
          refine norm_ (a' := ?_) ?_ ?_
          rotate_left
          · show Act.put _ (some 5) _ = _
            simp only [Act.put, List.setIfInBounds_toArray, List.set_cons_zero, List.set_cons_succ]
            rfl
          refine one_ (i := 10) (N := some 41) #[true, true, true, true, true, true, true, true, true, true, true, false, false, false, false, true, false, false] rfl rfl (by kernel_rfl) (by decide) (fun K hK => ?_)
          refine goes_ Try.func25 (by kernel_rfl) rfl #[.agg #[.int .i64 s2.f0, .slice P2 s2.f1.length q2]] (by rfl) rfl rfl (by simp only [List.map_toArray, List.map_cons, List.map_nil]; rfl) ?_
          refine ((HS2.out V2 (HBk.out.trans (HV2.out.mono HBk.out.size)))).mono ?_
          rintro e' V3 ⟨A4, c4, rfl, C4, hb, L4⟩
          refine ⟨_, rfl, ?_⟩
          replace HN9 := Lib.hid (blk_below HN9.out hb.out)
          have HV3 : Hid (Below wr.heap.size wr V3) := HV2.out.trans (hb.out.mono HV2.out.size)
          refine hK.out _ _ ⟨pw_cell_below hb.out hHeld.1, pw_cell_below hb.out hHeld.2.1, pw_cell_below hb.out hHeld.2.2.1, pw_cell_below hb.out hHeld.2.2.2⟩ (fun hHeld => ?_)
          clear hK K hb
          refine norm_ (a' := ?_) ?_ ?_
          rotate_left
          · show Act.put _ (some 41) _ = _
            simp only [Act.put, List.setIfInBounds_toArray, List.set_cons_zero, List.set_cons_succ]
            rfl
          refine one_ (i := 11) (N := some 42) #[true, true, true, true, true, true, true, true, true, true, true, true, false, false, false, true, false, false] rfl rfl (by kernel_rfl) (by decide) (fun K hK => ?_)
          refine goes_ Try.func22 (by kernel_rfl) rfl #[.agg #[.int .i64 x.f0, .slice A3 x.f1.length c3], .agg #[.int .i64 y.f0, .slice A4 y.f1.length c4]] (by rfl) rfl rfl (by simp only [List.map_toArray, List.map_cons, List.map_nil]; rfl) ?_
          refine ((HP22.out V3 A3 A4 c3 c4 (HBk.out.trans (HV3.out.mono HBk.out.size)) C3.out C4.out)).mono ?_
          rintro e' V4 ⟨A5, c5, B5, k5, rfl, R5, G5, hb⟩
          refine ⟨_, rfl, ?_⟩
          replace HN9 := Lib.hid (blk_below HN9.out hb.out)
          have HV4 : Hid (Below wr.heap.size wr V4) := HV3.out.trans (hb.out.mono HV3.out.size)
          replace R5 := Lib.hid (Kd.R_lower R5.out HV3.out.size)
          replace G5 := Lib.hid (Kd.R_lower G5.out HV3.out.size)
          refine hK.out _ _ ⟨pw_cell_below hb.out hHeld.1, pw_cell_below hb.out hHeld.2.1, pw_cell_below hb.out hHeld.2.2.1, pw_cell_below hb.out hHeld.2.2.2⟩ (fun hHeld => ?_)
          clear hK K hb
          refine norm_ (a' := ?_) ?_ ?_
          rotate_left
          · show Act.put _ (some 42) _ = _
            simp only [Act.put, List.setIfInBounds_toArray, List.set_cons_zero, List.set_cons_succ]
            rfl
          refine pure_ (i := 12) (N := some 30) (v := ?_) (a' := ?_) #[true, true, true, true, true, true, true, true, true, true, true, true, true, false, false, true, false, false] rfl rfl (by kernel_rfl) (fun _ _ _ h => h) (Or.inl ⟨by rfl, ?_⟩) ?_ ?_
          rotate_left
          · intro w'
            go_simp
            with_reducible rfl
          rotate_left
          · simp only [Act.put, List.setIfInBounds_toArray, List.set_cons_zero, List.set_cons_succ]
            rfl
          refine pure_ (i := 13) (N := some 43) (v := ?_) (a' := ?_) #[true, true, true, true, true, true, true, true, true, true, true, true, true, true, false, true, false, false] rfl rfl (by kernel_rfl) (fun _ _ _ h => h) (Or.inl ⟨by rfl, ?_⟩) ?_ ?_
          rotate_left
          · intro w'
            go_simp
            with_reducible rfl
          rotate_left
          · simp only [Act.put, List.setIfInBounds_toArray, List.set_cons_zero, List.set_cons_succ]
            rfl
          refine pure_ (i := 14) (N := some 44) (v := ?_) (a' := ?_) #[true, true, true, true, true, true, true, true, true, true, true, true, true, true, true, true, false, false] rfl rfl (by kernel_rfl) (fun _ _ _ h => h) (Or.inl ⟨by rfl, ?_⟩) ?_ ?_
          rotate_left
          · intro w'
            go_simp
            with_reducible rfl
          rotate_left
          · simp only [Act.put, List.setIfInBounds_toArray, List.set_cons_zero, List.set_cons_succ]
            rfl
          refine last_ (i := 16) (N := none) #[true, true, true, true, true, true, true, true, true, true, true, true, true, true, true, true, true, false] rfl rfl (by kernel_rfl) (by decide) (fun K hK => ?_)
          have x0 : V4.cell? ⟨nb, 0, none⟩ = some (.int .i64 0) := blk_at HN9.out 0 rfl
          have z0 : V4.frozen? ⟨nb, 0, none⟩ = false := blk_frozen HN9.out 0
          have x1 : V4.cell? ⟨nb, 1, none⟩ = some (.slice none 0 0) := blk_at HN9.out 1 rfl
          have z1 : V4.frozen? ⟨nb, 1, none⟩ = false := blk_frozen HN9.out 1
          have x2 : V4.cell? ⟨nb, 2, none⟩ = some (.slice none 0 0) := blk_at HN9.out 2 rfl
          have z2 : V4.frozen? ⟨nb, 2, none⟩ = false := blk_frozen HN9.out 2
          refine skip_ (w1 := (((V4.setCell ⟨nb, 0, none⟩ (.int .i64 d.f0)).setCell ⟨nb, 1, none⟩ (.slice A5 d.f1.length c5)).setCell ⟨nb, 2, none⟩ (.slice B5 d.f2.length k5))) (by rfl) rfl (by go_simp) ?_
          refine hK.out _ _ ?_
          have R5' := Lib.hid (Kd.R_set (Kd.R_set (Kd.R_set R5.out HN9.out (by decide) 0 (.int .i64 d.f0)) (blk_put HN9.out 0 (.int .i64 d.f0) rfl) (by decide) 1 (.slice A5 d.f1.length c5)) (blk_put (blk_put HN9.out 0 (.int .i64 d.f0) rfl) 1 (.slice A5 d.f1.length c5) rfl) (by decide) 2 (.slice B5 d.f2.length k5))
          have G5' := Lib.hid (Kd.R_set (Kd.R_set (Kd.R_set G5.out HN9.out (by decide) 0 (.int .i64 d.f0)) (blk_put HN9.out 0 (.int .i64 d.f0) rfl) (by decide) 1 (.slice A5 d.f1.length c5)) (blk_put (blk_put HN9.out 0 (.int .i64 d.f0) rfl) 1 (.slice A5 d.f1.length c5) rfl) (by decide) 2 (.slice B5 d.f2.length k5))
          have HN9' := Lib.hid (blk_put (blk_put (blk_put HN9.out 0 (.int .i64 d.f0) rfl) 1 (.slice A5 d.f1.length c5) rfl) 2 (.slice B5 d.f2.length k5) rfl)
          have HB9 : Hid (Below wr.heap.size wr (((V4.setCell ⟨nb, 0, none⟩ (.int .i64 d.f0)).setCell ⟨nb, 1, none⟩ (.slice A5 d.f1.length c5)).setCell ⟨nb, 2, none⟩ (.slice B5 d.f2.length k5))) := Lib.hid (((HV4.out.setCell (p := ⟨nb, 0, none⟩) hnb9.out _).setCell (p := ⟨nb, 1, none⟩) hnb9.out _).setCell (p := ⟨nb, 2, none⟩) hnb9.out _)
          clear hK K hHeld x0 z0 x1 z1 x2 z2 R5 G5 HN9 HV0 HV1 HV2 HV3 HV4
          generalize (((V4.setCell ⟨nb, 0, none⟩ (.int .i64 d.f0)).setCell ⟨nb, 1, none⟩ (.slice A5 d.f1.length c5)).setCell ⟨nb, 2, none⟩ (.slice B5 d.f2.length k5)) = W9 at *
          refine pure_ (i := 17) (N := some 6) (v := ?_) (a' := ?_) #[true, true, true, true, true, true, true, true, true, true, true, true, true, true, true, true, true, true] rfl rfl (by kernel_rfl) (fun _ _ _ h => h) (Or.inl ⟨by rfl, ?_⟩) ?_ ?_
          rotate_left
          · intro w'
            go_simp
            with_reducible rfl
          rotate_left
          · simp only [Act.put, List.setIfInBounds_toArray, List.set_cons_zero, List.set_cons_succ]
            rfl
          refine done_ (by kernel_rfl) ?_
          have HBe : Hid (Below w1.heap.size w1 W9) := HBk.out.trans (HB9.out.mono HBk.out.size)
          have HO9 := Lib.hid (Kd.R_below HO.out HB9.out)
          have HZ9 : Hid (w1.heap.size ≤ W9.heap.size) := Lib.hid HBe.out.size
          have HK9 : Hid (k27.M W9 w1.heap.size (fun q => wr.heap.size ≤ q) d [.int .i64 d.f0, .slice A5 d.f1.length c5, .slice B5 d.f2.length k5]) := Lib.hid (k27_mkM W9 w1.heap.size _ d (Kd.R_lower (Kd.R_mono (Kd.R_bound R5'.out) (fun q hq => hq.2.1)) HBk.out.size) (Kd.R_lower (Kd.R_mono (Kd.R_bound G5'.out) (fun q hq => hq.2.1)) HBk.out.size))
          have q0 : W9.cell? ⟨nb, 0, none⟩ = some (.int .i64 d.f0) := blk_at HN9'.out 0 rfl
          have q1' : W9.cell? ⟨nb, 1, none⟩ = some (.slice A5 d.f1.length c5) := blk_at HN9'.out 1 rfl
          have q2' : W9.cell? ⟨nb, 2, none⟩ = some (.slice B5 d.f2.length k5) := blk_at HN9'.out 2 rfl
          clear HN9' hnb9
          go_wp2_with (at_builtin; refine Kd.R_append k27 (w0 := W9) w1.heap.size rfl (.tmp 47) (.tmp 49) 53 27 (.agg #[.int .i64 0, .slice none 0 0, .slice none 0 0]) 56 rfl Try.underlying53 info27 rfl (show 0 < 3 by decide) (by decide) (.slice Ao mo co) (difs l kk) d _ (fun _ => True) (fun q => wr.heap.size ≤ q) rfl rfl ?hp ?hok (fun _ _ => trivial) HO9.out (Below.refl _ _) ?hS ?hl ?_
                       case hp => exact HK9.out
                       case hok => exact fun q hq => ⟨trivial, fun he => by have := Kd.R_lt HO.out q he.symm; omega⟩
                       case hS => exact HZ9.out
                       case hl => have := HLen.out; omega
                       intro v1 w3 hO3 hB3 hg3 hat3
                       have HO3 := Lib.hid hO3
                       have HB3 : Hid (Below w1.heap.size w1 w3) := HBe.out.trans hB3
                       clear hO3 hB3 hg3 hat3)
          go_roundw
          case rel => exact ⟨k, by omega, by go_num, by rw [← Hkk.out, difs_succ, HDD.out, XD.out]; exact HO3, HB3⟩
          case measure => simp [intOf]; omega
      · obtain ⟨nb, hnb⟩ : ∃ nb, nb = V0.heap.size := ⟨_, rfl⟩
        refine value_ (w1 := (V0.alloc (.cells #[.int .i64 0, .slice none 0 0, .slice none 0 0] 27))) (v := .pointer (some ⟨nb, 0, none⟩)) (by rfl) rfl (by rw [hnb]; go_simp) ?_
        have hal : Hid (Below V0.heap.size V0 (V0.alloc (.cells #[.int .i64 0, .slice none 0 0, .slice none 0 0] 27))) := Lib.hid ((Below.refl _ _).alloc (Nat.le_refl _) _)
        have HN9 : Hid ((V0.alloc (.cells #[.int .i64 0, .slice none 0 0, .slice none 0 0] 27)).heap[nb]? = some (.cells #[.int .i64 0, .slice none 0 0, .slice none 0 0] 27 (0, 0))) := by rw [hnb]; exact Lib.hid (blk_new _ _)
        have hnb9 : Hid (wr.heap.size ≤ nb) := by rw [hnb]; exact Lib.hid HV0.out.size
        refine hK.out _ _ ⟨pw_cell_below hal.out hHeld.1, pw_cell_below hal.out hHeld.2.1, pw_cell_below hal.out hHeld.2.2.1, pw_cell_below hal.out hHeld.2.2.2⟩ (fun hHeld => ?_)
        clear hK K hnb
        generalize (V0.alloc (.cells #[.int .i64 0, .slice none 0 0, .slice none 0 0] 27)) = V1 at hHeld hal HN9 ⊢
        have HV1 : Hid (Below wr.heap.size wr V1) := HV0.out.trans (hal.out.mono HV0.out.size)
        clear hal
        refine norm_ (a' := ?_) ?_ ?_
        rotate_left
        · show Act.put _ (some 5) _ = _
          simp only [Act.put, List.setIfInBounds_toArray, List.set_cons_zero, List.set_cons_succ]
          rfl
        refine one_ (i := 5) (N := some 36) #[true, true, true, true, true, true, true, true, true, true, false, false, false, false, false, true, false, false] rfl rfl (by kernel_rfl) (by decide) (fun K hK => ?_)
        refine goes_ Try.func25 (by kernel_rfl) rfl #[.agg #[.int .i64 s1.f0, .slice P1 s1.f1.length q1]] (by rfl) rfl rfl (by simp only [List.map_toArray, List.map_cons, List.map_nil]; rfl) ?_
        refine ((HS1.out V1 (HBk.out.trans (HV1.out.mono HBk.out.size)))).mono ?_
        rintro e' V2 ⟨A3, c3, rfl, C3, hb, L3⟩
        refine ⟨_, rfl, ?_⟩
        replace HN9 := Lib.hid (blk_below HN9.out hb.out)
        have HV2 : Hid (Below wr.heap.size wr V2) := HV1.out.trans (hb.out.mono HV1.out.size)
        refine hK.out _ _ ⟨pw_cell_below hb.out hHeld.1, pw_cell_below hb.out hHeld.2.1, pw_cell_below hb.out hHeld.2.2.1, pw_cell_below hb.out hHeld.2.2.2⟩ (fun hHeld => ?_)
        clear hK K hb
        refine norm_ (a' := ?_) ?_ ?_
        rotate_left
        · show Act.put _ (some 36) _ = _
          simp only [Act.put, List.setIfInBounds_toArray, List.set_cons_zero, List.set_cons_succ]
          rfl
        refine one_ (i := 10) (N := some 41) #[true, true, true, true, true, true, true, true, true, true, true, false, false, false, false, true, false, false] rfl rfl (by kernel_rfl) (by decide) (fun K hK => ?_)
        refine goes_ Try.func25 (by kernel_rfl) rfl #[.agg #[.int .i64 s2.f0, .slice P2 s2.f1.length q2]] (by rfl) rfl rfl (by simp only [List.map_toArray, List.map_cons, List.map_nil]; rfl) ?_
        refine ((HS2.out V2 (HBk.out.trans (HV2.out.mono HBk.out.size)))).mono ?_
        rintro e' V3 ⟨A4, c4, rfl, C4, hb, L4⟩
        refine ⟨_, rfl, ?_⟩
        replace HN9 := Lib.hid (blk_below HN9.out hb.out)
        have HV3 : Hid (Below wr.heap.size wr V3) := HV2.out.trans (hb.out.mono HV2.out.size)
        refine hK.out _ _ ⟨pw_cell_below hb.out hHeld.1, pw_cell_below hb.out hHeld.2.1, pw_cell_below hb.out hHeld.2.2.1, pw_cell_below hb.out hHeld.2.2.2⟩ (fun hHeld => ?_)
        clear hK K hb
        refine norm_ (a' := ?_) ?_ ?_
        rotate_left
        · show Act.put _ (some 41) _ = _
          simp only [Act.put, List.setIfInBounds_toArray, List.set_cons_zero, List.set_cons_succ]
          rfl
        refine one_ (i := 11) (N := some 42) #[true, true, true, true, true, true, true, true, true, true, true, true, false, false, false, true, false, false] rfl rfl (by kernel_rfl) (by decide) (fun K hK => ?_)
        refine goes_ Try.func22 (by kernel_rfl) rfl #[.agg #[.int .i64 x.f0, .slice A3 x.f1.length c3], .agg #[.int .i64 y.f0, .slice A4 y.f1.length c4]] (by rfl) rfl rfl (by simp only [List.map_toArray, List.map_cons, List.map_nil]; rfl) ?_
        refine ((HP22.out V3 A3 A4 c3 c4 (HBk.out.trans (HV3.out.mono HBk.out.size)) C3.out C4.out)).mono ?_
        rintro e' V4 ⟨A5, c5, B5, k5, rfl, R5, G5, hb⟩
        refine ⟨_, rfl, ?_⟩
        replace HN9 := Lib.hid (blk_below HN9.out hb.out)
        have HV4 : Hid (Below wr.heap.size wr V4) := HV3.out.trans (hb.out.mono HV3.out.size)
        replace R5 := Lib.hid (Kd.R_lower R5.out HV3.out.size)
        replace G5 := Lib.hid (Kd.R_lower G5.out HV3.out.size)
        refine hK.out _ _ ⟨pw_cell_below hb.out hHeld.1, pw_cell_below hb.out hHeld.2.1, pw_cell_below hb.out hHeld.2.2.1, pw_cell_below hb.out hHeld.2.2.2⟩ (fun hHeld => ?_)
        clear hK K hb
        refine norm_ (a' := ?_) ?_ ?_
        rotate_left
        · show Act.put _ (some 42) _ = _
          simp only [Act.put, List.setIfInBounds_toArray, List.set_cons_zero, List.set_cons_succ]
          rfl
        refine pure_ (i := 12) (N := some 30) (v := ?_) (a' := ?_) #[true, true, true, true, true, true, true, true, true, true, true, true, true, false, false, true, false, false] rfl rfl (by kernel_rfl) (fun _ _ _ h => h) (Or.inl ⟨by rfl, ?_⟩) ?_ ?_
        rotate_left
        · intro w'
          go_simp
          with_reducible rfl
        rotate_left
        · simp only [Act.put, List.setIfInBounds_toArray, List.set_cons_zero, List.set_cons_succ]
          rfl
        refine pure_ (i := 13) (N := some 43) (v := ?_) (a' := ?_) #[true, true, true, true, true, true, true, true, true, true, true, true, true, true, false, true, false, false] rfl rfl (by kernel_rfl) (fun _ _ _ h => h) (Or.inl ⟨by rfl, ?_⟩) ?_ ?_
        rotate_left
        · intro w'
          go_simp
          with_reducible rfl
        rotate_left
        · simp only [Act.put, List.setIfInBounds_toArray, List.set_cons_zero, List.set_cons_succ]
          rfl
        refine pure_ (i := 14) (N := some 44) (v := ?_) (a' := ?_) #[true, true, true, true, true, true, true, true, true, true, true, true, true, true, true, true, false, false] rfl rfl (by kernel_rfl) (fun _ _ _ h => h) (Or.inl ⟨by rfl, ?_⟩) ?_ ?_
        rotate_left
        · intro w'
          go_simp
          with_reducible rfl
        rotate_left
        · simp only [Act.put, List.setIfInBounds_toArray, List.set_cons_zero, List.set_cons_succ]
          rfl
        refine last_ (i := 16) (N := none) #[true, true, true, true, true, true, true, true, true, true, true, true, true, true, true, true, true, false] rfl rfl (by kernel_rfl) (by decide) (fun K hK => ?_)
        have x0 : V4.cell? ⟨nb, 0, none⟩ = some (.int .i64 0) := blk_at HN9.out 0 rfl
        have z0 : V4.frozen? ⟨nb, 0, none⟩ = false := blk_frozen HN9.out 0
        have x1 : V4.cell? ⟨nb, 1, none⟩ = some (.slice none 0 0) := blk_at HN9.out 1 rfl
        have z1 : V4.frozen? ⟨nb, 1, none⟩ = false := blk_frozen HN9.out 1
        have x2 : V4.cell? ⟨nb, 2, none⟩ = some (.slice none 0 0) := blk_at HN9.out 2 rfl
        have z2 : V4.frozen? ⟨nb, 2, none⟩ = false := blk_frozen HN9.out 2
        refine skip_ (w1 := (((V4.setCell ⟨nb, 0, none⟩ (.int .i64 d.f0)).setCell ⟨nb, 1, none⟩ (.slice A5 d.f1.length c5)).setCell ⟨nb, 2, none⟩ (.slice B5 d.f2.length k5))) (by rfl) rfl (by go_simp) ?_
        refine hK.out _ _ ?_
        have R5' := Lib.hid (Kd.R_set (Kd.R_set (Kd.R_set R5.out HN9.out (by decide) 0 (.int .i64 d.f0)) (blk_put HN9.out 0 (.int .i64 d.f0) rfl) (by decide) 1 (.slice A5 d.f1.length c5)) (blk_put (blk_put HN9.out 0 (.int .i64 d.f0) rfl) 1 (.slice A5 d.f1.length c5) rfl) (by decide) 2 (.slice B5 d.f2.length k5))
        have G5' := Lib.hid (Kd.R_set (Kd.R_set (Kd.R_set G5.out HN9.out (by decide) 0 (.int .i64 d.f0)) (blk_put HN9.out 0 (.int .i64 d.f0) rfl) (by decide) 1 (.slice A5 d.f1.length c5)) (blk_put (blk_put HN9.out 0 (.int .i64 d.f0) rfl) 1 (.slice A5 d.f1.length c5) rfl) (by decide) 2 (.slice B5 d.f2.length k5))
        have HN9' := Lib.hid (blk_put (blk_put (blk_put HN9.out 0 (.int .i64 d.f0) rfl) 1 (.slice A5 d.f1.length c5) rfl) 2 (.slice B5 d.f2.length k5) rfl)
        have HB9 : Hid (Below wr.heap.size wr (((V4.setCell ⟨nb, 0, none⟩ (.int .i64 d.f0)).setCell ⟨nb, 1, none⟩ (.slice A5 d.f1.length c5)).setCell ⟨nb, 2, none⟩ (.slice B5 d.f2.length k5))) := Lib.hid (((HV4.out.setCell (p := ⟨nb, 0, none⟩) hnb9.out _).setCell (p := ⟨nb, 1, none⟩) hnb9.out _).setCell (p := ⟨nb, 2, none⟩) hnb9.out _)
        clear hK K hHeld x0 z0 x1 z1 x2 z2 R5 G5 HN9 HV0 HV1 HV2 HV3 HV4
        generalize (((V4.setCell ⟨nb, 0, none⟩ (.int .i64 d.f0)).setCell ⟨nb, 1, none⟩ (.slice A5 d.f1.length c5)).setCell ⟨nb, 2, none⟩ (.slice B5 d.f2.length k5)) = W9 at *
        refine pure_ (i := 17) (N := some 6) (v := ?_) (a' := ?_) #[true, true, true, true, true, true, true, true, true, true, true, true, true, true, true, true, true, true] rfl rfl (by kernel_rfl) (fun _ _ _ h => h) (Or.inl ⟨by rfl, ?_⟩) ?_ ?_
        rotate_left
        · intro w'
          go_simp
          with_reducible rfl
        rotate_left
        · simp only [Act.put, List.setIfInBounds_toArray, List.set_cons_zero, List.set_cons_succ]
          rfl
        refine done_ (by kernel_rfl) ?_
        have HBe : Hid (Below w1.heap.size w1 W9) := HBk.out.trans (HB9.out.mono HBk.out.size)
        have HO9 := Lib.hid (Kd.R_below HO.out HB9.out)
        have HZ9 : Hid (w1.heap.size ≤ W9.heap.size) := Lib.hid HBe.out.size
        have HK9 : Hid (k27.M W9 w1.heap.size (fun q => wr.heap.size ≤ q) d [.int .i64 d.f0, .slice A5 d.f1.length c5, .slice B5 d.f2.length k5]) := Lib.hid (k27_mkM W9 w1.heap.size _ d (Kd.R_lower (Kd.R_mono (Kd.R_bound R5'.out) (fun q hq => hq.2.1)) HBk.out.size) (Kd.R_lower (Kd.R_mono (Kd.R_bound G5'.out) (fun q hq => hq.2.1)) HBk.out.size))
        have q0 : W9.cell? ⟨nb, 0, none⟩ = some (.int .i64 d.f0) := blk_at HN9'.out 0 rfl
        have q1' : W9.cell? ⟨nb, 1, none⟩ = some (.slice A5 d.f1.length c5) := blk_at HN9'.out 1 rfl
        have q2' : W9.cell? ⟨nb, 2, none⟩ = some (.slice B5 d.f2.length k5) := blk_at HN9'.out 2 rfl
        clear HN9' hnb9
        go_wp2_with (at_builtin; refine Kd.R_append k27 (w0 := W9) w1.heap.size rfl (.tmp 47) (.tmp 49) 53 27 (.agg #[.int .i64 0, .slice none 0 0, .slice none 0 0]) 56 rfl Try.underlying53 info27 rfl (show 0 < 3 by decide) (by decide) (.slice Ao mo co) (difs l kk) d _ (fun _ => True) (fun q => wr.heap.size ≤ q) rfl rfl ?hp ?hok (fun _ _ => trivial) HO9.out (Below.refl _ _) ?hS ?hl ?_
                     case hp => exact HK9.out
                     case hok => exact fun q hq => ⟨trivial, fun he => by have := Kd.R_lt HO.out q he.symm; omega⟩
                     case hS => exact HZ9.out
                     case hl => have := HLen.out; omega
                     intro v1 w3 hO3 hB3 hg3 hat3
                     have HO3 := Lib.hid hO3
                     have HB3 : Hid (Below w1.heap.size w1 w3) := HBe.out.trans hB3
                     clear hO3 hB3 hg3 hat3)
        go_roundw
        case rel => exact ⟨k, by omega, by go_num, by rw [← Hkk.out, difs_succ, HDD.out, XD.out]; exact HO3, HB3⟩
        case measure => simp [intOf]; omega

    · obtain rfl : k = n := by omega
      have hR := Kd.R_reads' HO.out
      obtain ⟨m, hm⟩ : ∃ m, m = kk := ⟨_, rfl⟩
      have hmo : mo = m := by rw [hR.1, difs_len, hm]
      subst hmo
      have hmn : mo + 1 = k := by rw [hkk, hm]
      have HCd : Hid (Kd.C k27 wr Ao mo (difs l mo)) := Lib.hid (by have := hR.2.2; rw [difs_len, ← hm] at this; exact this)
      clear hR hkk hm
      have HB2 : Hid (Below w.heap.size w wr) := HB1.out.trans (HBk.out.mono HB1.out.size)
      have HC2 := Lib.hid (Kd.C_below HC.out HBk.out)
      clear HO HB1 HBk HC Hkk hlt
      obtain ⟨w2, hw2⟩ : ∃ w2, w2 = wr := ⟨_, rfl⟩
      rw [← hw2] at HCd HB2 HC2 ⊢
      clear hw2
      obtain ⟨m, hm⟩ : ∃ m, m = mo := ⟨_, rfl⟩
      rw [← hm] at HCd hmn ⊢
      clear hm
      obtain ⟨n, hn⟩ : ∃ n, n = k := ⟨_, rfl⟩
      rw [← hn] at hmn hl2 hlm Hn ⊢
      clear hn
      have h0m : (0 : Int) < (m : Int) := by omega
      obtain ⟨ad, A5, c5, B5, k5, hA5, e0, e1, e2, hl5, hC5, hm5, hG5⟩ := at_T27 HCd.out (0 : Int) (by omega) h0m
      have hd0 : rd_T27 (difs l m) (0 : Int) = diffD (so l 0) (so l 1) := by unfold rd_T27; exact difs_get l m 0 (by omega)
      generalize rd_T27 (difs l m) (0 : Int) = d at *
      have HD0 := Lib.hid hd0
      clear hd0
      subst hA5
      simp only [Int.toNat_zero, Nat.zero_mul, addr_add_zero] at e0 e1 e2
      go_upto_region 16 with (fail)
      clear e0 e1 e2
      have HJ := Lib.hid (blk_new w2 (.cells #[.int .i64 d.f0, .slice A5 d.f1.length c5, .slice B5 d.f2.length k5] 27))
      have HBi : Hid (Below w2.heap.size w2 (w2.alloc (.cells #[.int .i64 d.f0, .slice A5 d.f1.length c5, .slice B5 d.f2.length k5] 27))) := Lib.hid ((Below.refl _ _).alloc (Nat.le_refl _) _)
      have HJC := Lib.hid (Kd.C_alloc hC5 (.cells #[.int .i64 d.f0, .slice A5 d.f1.length c5, .slice B5 d.f2.length k5] 27))
      have HJG := Lib.hid (Kd.C_alloc hG5 (.cells #[.int .i64 d.f0, .slice A5 d.f1.length c5, .slice B5 d.f2.length k5] 27))
      have HJL := Lib.hid (And.intro hl5 hm5)
      have HCI : Hid (ChainI l 1 d) := Lib.hid (by rw [HD0.out]; exact chain_first l)
      obtain ⟨bj, hbj⟩ : ∃ b, b = w2.heap.size := ⟨_, rfl⟩
      rw [← hbj] at HJ ⊢
      have HLJ : Hid (w2.heap.size ≤ bj) := Lib.hid (Nat.le_of_eq hbj.symm)
      generalize w2.alloc (.cells #[.int .i64 d.f0, .slice A5 d.f1.length c5, .slice B5 d.f2.length k5] 27) = v2 at HJ HBi HJC HJG ⊢
      clear hC5 hG5 hl5 hm5 hbj HD0
      have HIN : Hid (∃ (j : S27) (A6 : Option Addr) (c6 : Nat) (B6 : Option Addr) (k6 : Nat), Hid (v2.heap[bj]? = some (.cells #[.int .i64 j.f0, .slice A6 j.f1.length c6, .slice B6 j.f2.length k6] 27 (0, 0))) ∧ Hid (Kd.C k63 v2 A6 j.f1.length j.f1) ∧ Hid (Kd.C Kd.string v2 B6 j.f2.length j.f2) ∧ Hid (j.f1.length ≤ c6 ∧ j.f2.length ≤ k6) ∧ Hid (ChainI l 1 j) ∧ Hid (Below w2.heap.size w2 v2)) := Lib.hid ⟨d, A5, c5, B5, k5, HJ, HJC, HJG, HJL, HCI, HBi⟩
      clear HJ HJC HJG HJL HCI HBi
      go_wp2_with (fail)
      go_loopw [8, 9, 10] (fun v8 _ _ wr => ∃ i : Nat, 1 ≤ i ∧ i ≤ m ∧ v8 = .int .i64 i ∧ ∃ (j : S27) (A6 : Option Addr) (c6 : Nat) (B6 : Option Addr) (k6 : Nat), Hid (wr.heap[bj]? = some (.cells #[.int .i64 j.f0, .slice A6 j.f1.length c6, .slice B6 j.f2.length k6] 27 (0, 0))) ∧ Hid (Kd.C k63 wr A6 j.f1.length j.f1) ∧ Hid (Kd.C Kd.string wr B6 j.f2.length j.f2) ∧ Hid (j.f1.length ≤ c6 ∧ j.f2.length ≤ k6) ∧ Hid (ChainI l i j) ∧ Hid (Below w2.heap.size w2 wr)) (fun v8 _ _ _ => m - (intOf v8).toNat)
      case atStart => exact ⟨1, Nat.le_refl _, by omega, rfl, HIN.out⟩
      case round =>
      clear HIN
      obtain ⟨i, hi1, hi2, rfl, j, A6, c6, B6, k6, HJ, HJC, HJG, HJL, HCI, HBi⟩ := hrel
      have HLT : Hid (bj < wr.heap.size) := Lib.hid (blk_lt HJ.out)
      have y0 : wr.cell? ⟨bj, 0, none⟩ = some (.int .i64 j.f0) := blk_at HJ.out 0 rfl
      have y1 : wr.cell? ⟨bj, 1, none⟩ = some (.slice A6 j.f1.length c6) := blk_at HJ.out 1 rfl
      have y2 : wr.cell? ⟨bj, 2, none⟩ = some (.slice B6 j.f2.length k6) := blk_at HJ.out 2 rfl
      by_cases hlt : i < m
      · have hlt2 : (i : Int) < (m : Int) := by omega
        have i0 : (0 : Int) ≤ (i : Int) := by omega
        obtain ⟨ad', A5, c5, B5, k5, hA5, e0, e1, e2, hl5, hC5, hm5, hG5⟩ := at_T27 HCd.out (i : Int) i0 hlt2
        obtain rfl : ad = ad' := by injection hA5
        clear hA5
        have hx : rd_T27 (difs l m) (i : Int) = diffD (so l i) (so l (i + 1)) := by unfold rd_T27; rw [Int.toNat_natCast]; exact difs_get l m i hlt
        generalize rd_T27 (difs l m) (i : Int) = d at *
        rw [Int.toNat_natCast] at e0 e1 e2
        replace e0 := pw_cell_below HBi.out e0
        replace e1 := pw_cell_below HBi.out e1
        replace e2 := pw_cell_below HBi.out e2
        have HP20 : Hid (∀ W, Below wr.heap.size wr W → Calls Try.prog 20 #[.agg #[.int .i64 j.f0, .slice A6 j.f1.length c6, .slice B6 j.f2.length k6], .agg #[.int .i64 d.f0, .slice A5 d.f1.length c5, .slice B5 d.f2.length k5]] W fun e' w' => DDR (joinD j d) (joinE j d) W e' w') := Lib.hid (fun W h => joinR20 j d A6 B6 A5 B5 c6 k6 c5 k5 W (Kd.C_below HJC.out h) (Kd.C_below HJG.out h) (Kd.C_below hC5 (HBi.out.trans (h.mono HBi.out.size))) (Kd.C_below hG5 (HBi.out.trans (h.mono HBi.out.size))))
        generalize hz : joinD j d = z at HP20
        have X3 : Hid (joinD j (diffD (so l i) (so l (i + 1))) = z) := Lib.hid (by rw [← hx]; exact hz)
        clear hz
        generalize hz : joinE j d = m3 at HP20
        have M3 : Hid (joinE j (diffD (so l i) (so l (i + 1))) = m3) := Lib.hid (by rw [← hx]; exact hz)
        clear hz hx hl5 hC5 hm5 hG5
        go_upto_region 19 with (fail)
        clear hlt2 i0
        refine start_ (n := 12) (S := (fun w' => w'.cell? ⟨bj, 0, none⟩ = some (.int .i64 j.f0) ∧ w'.cell? ⟨bj, 1, none⟩ = some (.slice A6 j.f1.length c6) ∧ w'.cell? ⟨bj, 2, none⟩ = some (.slice B6 j.f2.length k6) ∧ w'.cell? (ad.add (i * 3)) = some (.int .i64 d.f0) ∧ w'.cell? ⟨(ad.add (i * 3)).block, (ad.add (i * 3)).off + 1, none⟩ = some (.slice A5 d.f1.length c5) ∧ w'.cell? ⟨(ad.add (i * 3)).block, (ad.add (i * 3)).off + 2, none⟩ = some (.slice B5 d.f2.length k5))) (ds := [10]) #[false, false, false, false, false, false, false, false, false, false, false, false] (by kernel_rfl) rfl rfl ⟨y0, y1, y2, e0, e1, e2⟩ (fun hHeld => ?_)
        have HV0 : Hid (Below wr.heap.size wr wr.drew) := (Below.refl _ _).drew
        generalize wr.drew = V0 at hHeld HV0  ⊢
        refine take_ (i := 0) (N := some 61) (v := ?_) (a' := ?_) #[true, false, false, false, false, false, false, false, false, false, false, false] rfl rfl (by kernel_rfl) (fun _ _ _ h => h) (Or.inl ⟨by rfl, ?_⟩) hHeld ?_ ?_
        rotate_left
        · rintro w' ⟨s0, s1, s2, s3, s4, s5⟩
          go_simp
          with_reducible rfl
        rotate_left
        · simp only [Act.put, List.setIfInBounds_toArray, List.set_cons_zero, List.set_cons_succ]
          rfl
        refine pure_ (i := 1) (N := some 62) (v := ?_) (a' := ?_) #[true, true, false, false, false, false, false, false, false, false, false, false] rfl rfl (by kernel_rfl) (fun _ _ _ h => h) (Or.inl ⟨by rfl, ?_⟩) ?_ ?_
        rotate_left
        · intro w'
          go_simp
          with_reducible rfl
        rotate_left
        · simp only [Act.put, List.setIfInBounds_toArray, List.set_cons_zero, List.set_cons_succ]
          rfl
        refine pure_ (i := 2) (N := some 63) (v := ?_) (a' := ?_) #[true, true, true, false, false, false, false, false, false, false, false, false] rfl rfl (by kernel_rfl) (fun _ _ _ h => h) (Or.inl ⟨by rfl, ?_⟩) ?_ ?_
        rotate_left
        · intro w'
          go_simp
          with_reducible rfl
        rotate_left
        · simp only [Act.put, List.setIfInBounds_toArray, List.set_cons_zero, List.set_cons_succ]
          rfl
        refine pure_ (i := 3) (N := some 64) (v := ?_) (a' := ?_) #[true, true, true, true, false, false, false, false, false, false, false, false] rfl rfl (by kernel_rfl) (fun _ _ _ h => h) (Or.inl ⟨by rfl, ?_⟩) ?_ ?_
        rotate_left
        · intro w'
          go_simp
          with_reducible rfl
        rotate_left
        · simp only [Act.put, List.setIfInBounds_toArray, List.set_cons_zero, List.set_cons_succ]
          rfl
        refine take_ (i := 4) (N := some 65) (v := ?_) (a' := ?_) #[true, true, true, true, true, false, false, false, false, false, false, false] rfl rfl (by kernel_rfl) (fun _ _ _ h => h) (Or.inl ⟨by rfl, ?_⟩) hHeld ?_ ?_
        rotate_left
        · rintro w' ⟨s0, s1, s2, s3, s4, s5⟩
          go_simp
          with_reducible rfl
        rotate_left
        · simp only [Act.put, List.setIfInBounds_toArray, List.set_cons_zero, List.set_cons_succ]
          rfl
        refine two_ (i := 5) (j := 9) (Ni := some 66) (Nj := some 9) #[true, true, true, true, true, true, false, false, false, false, false, false] #[true, true, true, true, true, false, false, false, false, true, false, false] rfl rfl rfl rfl (by kernel_rfl) (by decide) (by decide) (fun K hK => ?_) (fun K hK => ?_)
        · refine goes_ Try.func20 (by kernel_rfl) rfl #[.agg #[.int .i64 j.f0, .slice A6 j.f1.length c6, .slice B6 j.f2.length k6], .agg #[.int .i64 d.f0, .slice A5 d.f1.length c5, .slice B5 d.f2.length k5]] (by rfl) rfl rfl (by simp only [List.map_toArray, List.map_cons, List.map_nil]; rfl) ?_
          refine ((HP20.out V0 HV0.out)).mono ?_
          rintro e' V1 ⟨A7, c7, B7, k7, rfl, R7, G7, hb⟩
          refine ⟨_, rfl, ?_⟩
          have HV1 : Hid (Below wr.heap.size wr V1) := HV0.out.trans (hb.out.mono HV0.out.size)
          replace R7 := Lib.hid (Kd.R_lower R7.out HV0.out.size)
          replace G7 := Lib.hid (Kd.R_lower G7.out HV0.out.size)
          refine hK.out _ _ ⟨pw_cell_below hb.out hHeld.1, pw_cell_below hb.out hHeld.2.1, pw_cell_below hb.out hHeld.2.2.1, pw_cell_below hb.out hHeld.2.2.2.1, pw_cell_below hb.out hHeld.2.2.2.2.1, pw_cell_below hb.out hHeld.2.2.2.2.2⟩ (fun hHeld => ?_)
          clear hK K hb
          refine norm_ (a' := ?_) ?_ ?_
          rotate_left
          · show Act.put _ (some 66) _ = _
            simp only [Act.put, List.setIfInBounds_toArray, List.set_cons_zero, List.set_cons_succ]
            rfl
          refine pure_ (i := 6) (N := some 60) (v := ?_) (a' := ?_) #[true, true, true, true, true, true, true, false, false, false, false, false] rfl rfl (by kernel_rfl) (fun _ _ _ h => h) (Or.inl ⟨by rfl, ?_⟩) ?_ ?_
          rotate_left
          · intro w'
            go_simp
            with_reducible rfl
          rotate_left
          · simp only [Act.put, List.setIfInBounds_toArray, List.set_cons_zero, List.set_cons_succ]
            rfl
          refine pure_ (i := 7) (N := some 67) (v := ?_) (a' := ?_) #[true, true, true, true, true, true, true, true, false, false, false, false] rfl rfl (by kernel_rfl) (fun _ _ _ h => h) (Or.inl ⟨by rfl, ?_⟩) ?_ ?_
          rotate_left
          · intro w'
            go_simp
            with_reducible rfl
          rotate_left
          · simp only [Act.put, List.setIfInBounds_toArray, List.set_cons_zero, List.set_cons_succ]
            rfl
          refine pure_ (i := 8) (N := some 68) (v := ?_) (a' := ?_) #[true, true, true, true, true, true, true, true, true, false, false, false] rfl rfl (by kernel_rfl) (fun _ _ _ h => h) (Or.inl ⟨by rfl, ?_⟩) ?_ ?_
          rotate_left
          · intro w'
            go_simp
            with_reducible rfl
          rotate_left
          · simp only [Act.put, List.setIfInBounds_toArray, List.set_cons_zero, List.set_cons_succ]
            rfl
          refine one_ (i := 9) (N := some 9) #[true, true, true, true, true, true, true, true, true, true, false, false] rfl rfl (by kernel_rfl) (by decide) (fun K hK => ?_)
          obtain ⟨nb, hnb⟩ : ∃ nb, nb = V1.heap.size := ⟨_, rfl⟩
          refine value_ (w1 := (V1.alloc (.cells #[.int .i64 0, .slice none 0 0, .slice none 0 0] 27))) (v := .pointer (some ⟨nb, 0, none⟩)) (by rfl) rfl (by rw [hnb]; go_simp) ?_
          have hal : Hid (Below V1.heap.size V1 (V1.alloc (.cells #[.int .i64 0, .slice none 0 0, .slice none 0 0] 27))) := Lib.hid ((Below.refl _ _).alloc (Nat.le_refl _) _)
          have HN9 : Hid ((V1.alloc (.cells #[.int .i64 0, .slice none 0 0, .slice none 0 0] 27)).heap[nb]? = some (.cells #[.int .i64 0, .slice none 0 0, .slice none 0 0] 27 (0, 0))) := by rw [hnb]; exact Lib.hid (blk_new _ _)
          have hnb9 : Hid (wr.heap.size ≤ nb) := by rw [hnb]; exact Lib.hid HV1.out.size
          refine hK.out _ _ ⟨pw_cell_below hal.out hHeld.1, pw_cell_below hal.out hHeld.2.1, pw_cell_below hal.out hHeld.2.2.1, pw_cell_below hal.out hHeld.2.2.2.1, pw_cell_below hal.out hHeld.2.2.2.2.1, pw_cell_below hal.out hHeld.2.2.2.2.2⟩ (fun hHeld => ?_)
          clear hK K hnb
          generalize (V1.alloc (.cells #[.int .i64 0, .slice none 0 0, .slice none 0 0] 27)) = V2 at hHeld hal HN9 ⊢
          replace R7 := Lib.hid (Kd.R_below R7.out hal.out)
          replace G7 := Lib.hid (Kd.R_below G7.out hal.out)
          have HV2 : Hid (Below wr.heap.size wr V2) := HV1.out.trans (hal.out.mono HV1.out.size)
          clear hal
          refine norm_ (a' := ?_) ?_ ?_
          rotate_left
          · show Act.put _ (some 9) _ = _
            simp only [Act.put, List.setIfInBounds_toArray, List.set_cons_zero, List.set_cons_succ]
            rfl
          refine last_ (i := 10) (N := none) #[true, true, true, true, true, true, true, true, true, true, true, false] rfl rfl (by kernel_rfl) (by decide) (fun K hK => ?_)
          have x0 : V2.cell? ⟨nb, 0, none⟩ = some (.int .i64 0) := blk_at HN9.out 0 rfl
          have z0 : V2.frozen? ⟨nb, 0, none⟩ = false := blk_frozen HN9.out 0
          have x1 : V2.cell? ⟨nb, 1, none⟩ = some (.slice none 0 0) := blk_at HN9.out 1 rfl
          have z1 : V2.frozen? ⟨nb, 1, none⟩ = false := blk_frozen HN9.out 1
          have x2 : V2.cell? ⟨nb, 2, none⟩ = some (.slice none 0 0) := blk_at HN9.out 2 rfl
          have z2 : V2.frozen? ⟨nb, 2, none⟩ = false := blk_frozen HN9.out 2
          refine skip_ (w1 := (((V2.setCell ⟨nb, 0, none⟩ (.int .i64 z.f0)).setCell ⟨nb, 1, none⟩ (.slice A7 z.f1.length c7)).setCell ⟨nb, 2, none⟩ (.slice B7 z.f2.length k7))) (by rfl) rfl (by go_simp) ?_
          refine hK.out _ _ ?_
          have R7' := Lib.hid (Kd.R_set (Kd.R_set (Kd.R_set R7.out HN9.out (by decide) 0 (.int .i64 z.f0)) (blk_put HN9.out 0 (.int .i64 z.f0) rfl) (by decide) 1 (.slice A7 z.f1.length c7)) (blk_put (blk_put HN9.out 0 (.int .i64 z.f0) rfl) 1 (.slice A7 z.f1.length c7) rfl) (by decide) 2 (.slice B7 z.f2.length k7))
          have G7' := Lib.hid (Kd.R_set (Kd.R_set (Kd.R_set G7.out HN9.out (by decide) 0 (.int .i64 z.f0)) (blk_put HN9.out 0 (.int .i64 z.f0) rfl) (by decide) 1 (.slice A7 z.f1.length c7)) (blk_put (blk_put HN9.out 0 (.int .i64 z.f0) rfl) 1 (.slice A7 z.f1.length c7) rfl) (by decide) 2 (.slice B7 z.f2.length k7))
          have HN9' := Lib.hid (blk_put (blk_put (blk_put HN9.out 0 (.int .i64 z.f0) rfl) 1 (.slice A7 z.f1.length c7) rfl) 2 (.slice B7 z.f2.length k7) rfl)
          have HB9 : Hid (Below wr.heap.size wr (((V2.setCell ⟨nb, 0, none⟩ (.int .i64 z.f0)).setCell ⟨nb, 1, none⟩ (.slice A7 z.f1.length c7)).setCell ⟨nb, 2, none⟩ (.slice B7 z.f2.length k7))) := Lib.hid (((HV2.out.setCell (p := ⟨nb, 0, none⟩) hnb9.out _).setCell (p := ⟨nb, 1, none⟩) hnb9.out _).setCell (p := ⟨nb, 2, none⟩) hnb9.out _)
          clear hK K hHeld x0 z0 x1 z1 x2 z2 R7 G7 HN9 HV0 HV1 HV2
          generalize (((V2.setCell ⟨nb, 0, none⟩ (.int .i64 z.f0)).setCell ⟨nb, 1, none⟩ (.slice A7 z.f1.length c7)).setCell ⟨nb, 2, none⟩ (.slice B7 z.f2.length k7)) = W9 at *
          refine pure_ (i := 11) (N := some 10) (v := ?_) (a' := ?_) #[true, true, true, true, true, true, true, true, true, true, true, true] rfl rfl (by kernel_rfl) (fun _ _ _ h => h) (Or.inl ⟨by rfl, ?_⟩) ?_ ?_
          rotate_left
          · intro w'
            go_simp
            with_reducible rfl
          rotate_left
          · simp only [Act.put, List.setIfInBounds_toArray, List.set_cons_zero, List.set_cons_succ]
            rfl
          refine done_ (by kernel_rfl) ?_
          have HBe : Hid (Below w2.heap.size w2 W9) := HBi.out.trans (HB9.out.mono HBi.out.size)
          have HJ9 := Lib.hid (blk_below HJ.out HB9.out)
          by_cases qm : m3 = 0
          rotate_left
          · have q9 : m3 = 111 := by rw [← M3.out]; exact chain_err HCI.out (by rw [M3.out]; exact qm)
            subst q9
            clear qm
            go_wp2_with (fail)
            go_ret
            exact ⟨rfl, HB2.out.trans (HBe.out.mono HB2.out.size)⟩
          subst qm
          have HCI2 : Hid (ChainI l (i + 1) z) := Lib.hid (by rw [← X3.out]; exact chain_next HCI.out M3.out)
          have q0 : W9.cell? ⟨nb, 0, none⟩ = some (.int .i64 z.f0) := blk_at HN9'.out 0 rfl
          have q1 : W9.cell? ⟨nb, 1, none⟩ = some (.slice A7 z.f1.length c7) := blk_at HN9'.out 1 rfl
          have q2 : W9.cell? ⟨nb, 2, none⟩ = some (.slice B7 z.f2.length k7) := blk_at HN9'.out 2 rfl
          have y0 : W9.cell? ⟨bj, 0, none⟩ = some (.int .i64 j.f0) := blk_at HJ9.out 0 rfl
          have f0 : W9.frozen? ⟨bj, 0, none⟩ = false := blk_frozen HJ9.out 0
          have y1 : W9.cell? ⟨bj, 1, none⟩ = some (.slice A6 j.f1.length c6) := blk_at HJ9.out 1 rfl
          have f1 : W9.frozen? ⟨bj, 1, none⟩ = false := blk_frozen HJ9.out 1
          have y2 : W9.cell? ⟨bj, 2, none⟩ = some (.slice B6 j.f2.length k6) := blk_at HJ9.out 2 rfl
          have f2 : W9.frozen? ⟨bj, 2, none⟩ = false := blk_frozen HJ9.out 2
          go_wp2_with (fail)
          have HT := Lib.hid (blk_put (blk_put (blk_put HJ9.out 0 (.int .i64 z.f0) rfl) 1 (.slice A7 z.f1.length c7) rfl) 2 (.slice B7 z.f2.length k7) rfl)
          have HBt : Hid (Below w2.heap.size w2 (((W9.setCell ⟨bj, 0, none⟩ (.int .i64 z.f0)).setCell ⟨bj, 1, none⟩ (.slice A7 z.f1.length c7)).setCell ⟨bj, 2, none⟩ (.slice B7 z.f2.length k7))) := Lib.hid (((HBe.out.setCell (p := ⟨bj, 0, none⟩) HLJ.out _).setCell (p := ⟨bj, 1, none⟩) HLJ.out _).setCell (p := ⟨bj, 2, none⟩) HLJ.out _)
          have RC := Kd.R_reads' (R_low (R_low (R_low R7'.out (p := ⟨bj, 0, none⟩) HLT.out (.int .i64 z.f0)) (p := ⟨bj, 1, none⟩) HLT.out (.slice A7 z.f1.length c7)) (p := ⟨bj, 2, none⟩) HLT.out (.slice B7 z.f2.length k7))
          have RG := Kd.R_reads' (R_low (R_low (R_low G7'.out (p := ⟨bj, 0, none⟩) HLT.out (.int .i64 z.f0)) (p := ⟨bj, 1, none⟩) HLT.out (.slice A7 z.f1.length c7)) (p := ⟨bj, 2, none⟩) HLT.out (.slice B7 z.f2.length k7))
          have RC1 := Lib.hid RC
          have RG1 := Lib.hid RG
          clear RC RG
          go_roundw
          case rel => exact ⟨i + 1, by omega, by omega, by go_num, z, A7, c7, B7, k7, HT, Lib.hid RC1.out.2.2, Lib.hid RG1.out.2.2, Lib.hid ⟨RC1.out.2.1, RG1.out.2.1⟩, HCI2, HBt⟩
          case measure => simp [intOf]; omega
        · obtain ⟨nb, hnb⟩ : ∃ nb, nb = V0.heap.size := ⟨_, rfl⟩
          refine value_ (w1 := (V0.alloc (.cells #[.int .i64 0, .slice none 0 0, .slice none 0 0] 27))) (v := .pointer (some ⟨nb, 0, none⟩)) (by rfl) rfl (by rw [hnb]; go_simp) ?_
          have hal : Hid (Below V0.heap.size V0 (V0.alloc (.cells #[.int .i64 0, .slice none 0 0, .slice none 0 0] 27))) := Lib.hid ((Below.refl _ _).alloc (Nat.le_refl _) _)
          have HN9 : Hid ((V0.alloc (.cells #[.int .i64 0, .slice none 0 0, .slice none 0 0] 27)).heap[nb]? = some (.cells #[.int .i64 0, .slice none 0 0, .slice none 0 0] 27 (0, 0))) := by rw [hnb]; exact Lib.hid (blk_new _ _)
          have hnb9 : Hid (wr.heap.size ≤ nb) := by rw [hnb]; exact Lib.hid HV0.out.size
          refine hK.out _ _ ⟨pw_cell_below hal.out hHeld.1, pw_cell_below hal.out hHeld.2.1, pw_cell_below hal.out hHeld.2.2.1, pw_cell_below hal.out hHeld.2.2.2.1, pw_cell_below hal.out hHeld.2.2.2.2.1, pw_cell_below hal.out hHeld.2.2.2.2.2⟩ (fun hHeld => ?_)
          clear hK K hnb
          generalize (V0.alloc (.cells #[.int .i64 0, .slice none 0 0, .slice none 0 0] 27)) = V1 at hHeld hal HN9 ⊢
          have HV1 : Hid (Below wr.heap.size wr V1) := HV0.out.trans (hal.out.mono HV0.out.size)
          clear hal
          refine norm_ (a' := ?_) ?_ ?_
          rotate_left
          · show Act.put _ (some 9) _ = _
            simp only [Act.put, List.setIfInBounds_toArray, List.set_cons_zero, List.set_cons_succ]
            rfl
          refine one_ (i := 5) (N := some 66) #[true, true, true, true, true, true, false, false, false, true, false, false] rfl rfl (by kernel_rfl) (by decide) (fun K hK => ?_)
          refine goes_ Try.func20 (by kernel_rfl) rfl #[.agg #[.int .i64 j.f0, .slice A6 j.f1.length c6, .slice B6 j.f2.length k6], .agg #[.int .i64 d.f0, .slice A5 d.f1.length c5, .slice B5 d.f2.length k5]] (by rfl) rfl rfl (by simp only [List.map_toArray, List.map_cons, List.map_nil]; rfl) ?_
          refine ((HP20.out V1 HV1.out)).mono ?_
          rintro e' V2 ⟨A7, c7, B7, k7, rfl, R7, G7, hb⟩
          refine ⟨_, rfl, ?_⟩
          replace HN9 := Lib.hid (blk_below HN9.out hb.out)
          have HV2 : Hid (Below wr.heap.size wr V2) := HV1.out.trans (hb.out.mono HV1.out.size)
          replace R7 := Lib.hid (Kd.R_lower R7.out HV1.out.size)
          replace G7 := Lib.hid (Kd.R_lower G7.out HV1.out.size)
          refine hK.out _ _ ⟨pw_cell_below hb.out hHeld.1, pw_cell_below hb.out hHeld.2.1, pw_cell_below hb.out hHeld.2.2.1, pw_cell_below hb.out hHeld.2.2.2.1, pw_cell_below hb.out hHeld.2.2.2.2.1, pw_cell_below hb.out hHeld.2.2.2.2.2⟩ (fun hHeld => ?_)
          clear hK K hb
          refine norm_ (a' := ?_) ?_ ?_
          rotate_left
          · show Act.put _ (some 66) _ = _
            simp only [Act.put, List.setIfInBounds_toArray, List.set_cons_zero, List.set_cons_succ]
            rfl
          refine pure_ (i := 6) (N := some 60) (v := ?_) (a' := ?_) #[true, true, true, true, true, true, true, false, false, true, false, false] rfl rfl (by kernel_rfl) (fun _ _ _ h => h) (Or.inl ⟨by rfl, ?_⟩) ?_ ?_
          rotate_left
          · intro w'
            go_simp
            with_reducible rfl
          rotate_left
          · simp only [Act.put, List.setIfInBounds_toArray, List.set_cons_zero, List.set_cons_succ]
            rfl
          refine pure_ (i := 7) (N := some 67) (v := ?_) (a' := ?_) #[true, true, true, true, true, true, true, true, false, true, false, false] rfl rfl (by kernel_rfl) (fun _ _ _ h => h) (Or.inl ⟨by rfl, ?_⟩) ?_ ?_
          rotate_left
          · intro w'
            go_simp
            with_reducible rfl
          rotate_left
          · simp only [Act.put, List.setIfInBounds_toArray, List.set_cons_zero, List.set_cons_succ]
            rfl
          refine pure_ (i := 8) (N := some 68) (v := ?_) (a' := ?_) #[true, true, true, true, true, true, true, true, true, true, false, false] rfl rfl (by kernel_rfl) (fun _ _ _ h => h) (Or.inl ⟨by rfl, ?_⟩) ?_ ?_
          rotate_left
          · intro w'
            go_simp
            with_reducible rfl
          rotate_left
          · simp only [Act.put, List.setIfInBounds_toArray, List.set_cons_zero, List.set_cons_succ]
            rfl
          refine last_ (i := 10) (N := none) #[true, true, true, true, true, true, true, true, true, true, true, false] rfl rfl (by kernel_rfl) (by decide) (fun K hK => ?_)
          have x0 : V2.cell? ⟨nb, 0, none⟩ = some (.int .i64 0) := blk_at HN9.out 0 rfl
          have z0 : V2.frozen? ⟨nb, 0, none⟩ = false := blk_frozen HN9.out 0
          have x1 : V2.cell? ⟨nb, 1, none⟩ = some (.slice none 0 0) := blk_at HN9.out 1 rfl
          have z1 : V2.frozen? ⟨nb, 1, none⟩ = false := blk_frozen HN9.out 1
          have x2 : V2.cell? ⟨nb, 2, none⟩ = some (.slice none 0 0) := blk_at HN9.out 2 rfl
          have z2 : V2.frozen? ⟨nb, 2, none⟩ = false := blk_frozen HN9.out 2
          refine skip_ (w1 := (((V2.setCell ⟨nb, 0, none⟩ (.int .i64 z.f0)).setCell ⟨nb, 1, none⟩ (.slice A7 z.f1.length c7)).setCell ⟨nb, 2, none⟩ (.slice B7 z.f2.length k7))) (by rfl) rfl (by go_simp) ?_
          refine hK.out _ _ ?_
          have R7' := Lib.hid (Kd.R_set (Kd.R_set (Kd.R_set R7.out HN9.out (by decide) 0 (.int .i64 z.f0)) (blk_put HN9.out 0 (.int .i64 z.f0) rfl) (by decide) 1 (.slice A7 z.f1.length c7)) (blk_put (blk_put HN9.out 0 (.int .i64 z.f0) rfl) 1 (.slice A7 z.f1.length c7) rfl) (by decide) 2 (.slice B7 z.f2.length k7))
          have G7' := Lib.hid (Kd.R_set (Kd.R_set (Kd.R_set G7.out HN9.out (by decide) 0 (.int .i64 z.f0)) (blk_put HN9.out 0 (.int .i64 z.f0) rfl) (by decide) 1 (.slice A7 z.f1.length c7)) (blk_put (blk_put HN9.out 0 (.int .i64 z.f0) rfl) 1 (.slice A7 z.f1.length c7) rfl) (by decide) 2 (.slice B7 z.f2.length k7))
          have HN9' := Lib.hid (blk_put (blk_put (blk_put HN9.out 0 (.int .i64 z.f0) rfl) 1 (.slice A7 z.f1.length c7) rfl) 2 (.slice B7 z.f2.length k7) rfl)
          have HB9 : Hid (Below wr.heap.size wr (((V2.setCell ⟨nb, 0, none⟩ (.int .i64 z.f0)).setCell ⟨nb, 1, none⟩ (.slice A7 z.f1.length c7)).setCell ⟨nb, 2, none⟩ (.slice B7 z.f2.length k7))) := Lib.hid (((HV2.out.setCell (p := ⟨nb, 0, none⟩) hnb9.out _).setCell (p := ⟨nb, 1, none⟩) hnb9.out _).setCell (p := ⟨nb, 2, none⟩) hnb9.out _)
          clear hK K hHeld x0 z0 x1 z1 x2 z2 R7 G7 HN9 HV0 HV1 HV2
          generalize (((V2.setCell ⟨nb, 0, none⟩ (.int .i64 z.f0)).setCell ⟨nb, 1, none⟩ (.slice A7 z.f1.length c7)).setCell ⟨nb, 2, none⟩ (.slice B7 z.f2.length k7)) = W9 at *
          refine pure_ (i := 11) (N := some 10) (v := ?_) (a' := ?_) #[true, true, true, true, true, true, true, true, true, true, true, true] rfl rfl (by kernel_rfl) (fun _ _ _ h => h) (Or.inl ⟨by rfl, ?_⟩) ?_ ?_
          rotate_left
          · intro w'
            go_simp
            with_reducible rfl
          rotate_left
          · simp only [Act.put, List.setIfInBounds_toArray, List.set_cons_zero, List.set_cons_succ]
            rfl
          refine done_ (by kernel_rfl) ?_
          have HBe : Hid (Below w2.heap.size w2 W9) := HBi.out.trans (HB9.out.mono HBi.out.size)
          have HJ9 := Lib.hid (blk_below HJ.out HB9.out)
          by_cases qm : m3 = 0
          rotate_left
          · have q9 : m3 = 111 := by rw [← M3.out]; exact chain_err HCI.out (by rw [M3.out]; exact qm)
            subst q9
            clear qm
            go_wp2_with (fail)
            go_ret
            exact ⟨rfl, HB2.out.trans (HBe.out.mono HB2.out.size)⟩
          subst qm
          have HCI2 : Hid (ChainI l (i + 1) z) := Lib.hid (by rw [← X3.out]; exact chain_next HCI.out M3.out)
          have q0 : W9.cell? ⟨nb, 0, none⟩ = some (.int .i64 z.f0) := blk_at HN9'.out 0 rfl
          have q1 : W9.cell? ⟨nb, 1, none⟩ = some (.slice A7 z.f1.length c7) := blk_at HN9'.out 1 rfl
          have q2 : W9.cell? ⟨nb, 2, none⟩ = some (.slice B7 z.f2.length k7) := blk_at HN9'.out 2 rfl
          have y0 : W9.cell? ⟨bj, 0, none⟩ = some (.int .i64 j.f0) := blk_at HJ9.out 0 rfl
          have f0 : W9.frozen? ⟨bj, 0, none⟩ = false := blk_frozen HJ9.out 0
          have y1 : W9.cell? ⟨bj, 1, none⟩ = some (.slice A6 j.f1.length c6) := blk_at HJ9.out 1 rfl
          have f1 : W9.frozen? ⟨bj, 1, none⟩ = false := blk_frozen HJ9.out 1
          have y2 : W9.cell? ⟨bj, 2, none⟩ = some (.slice B6 j.f2.length k6) := blk_at HJ9.out 2 rfl
          have f2 : W9.frozen? ⟨bj, 2, none⟩ = false := blk_frozen HJ9.out 2
          go_wp2_with (fail)
          have HT := Lib.hid (blk_put (blk_put (blk_put HJ9.out 0 (.int .i64 z.f0) rfl) 1 (.slice A7 z.f1.length c7) rfl) 2 (.slice B7 z.f2.length k7) rfl)
          have HBt : Hid (Below w2.heap.size w2 (((W9.setCell ⟨bj, 0, none⟩ (.int .i64 z.f0)).setCell ⟨bj, 1, none⟩ (.slice A7 z.f1.length c7)).setCell ⟨bj, 2, none⟩ (.slice B7 z.f2.length k7))) := Lib.hid (((HBe.out.setCell (p := ⟨bj, 0, none⟩) HLJ.out _).setCell (p := ⟨bj, 1, none⟩) HLJ.out _).setCell (p := ⟨bj, 2, none⟩) HLJ.out _)
          have RC := Kd.R_reads' (R_low (R_low (R_low R7'.out (p := ⟨bj, 0, none⟩) HLT.out (.int .i64 z.f0)) (p := ⟨bj, 1, none⟩) HLT.out (.slice A7 z.f1.length c7)) (p := ⟨bj, 2, none⟩) HLT.out (.slice B7 z.f2.length k7))
          have RG := Kd.R_reads' (R_low (R_low (R_low G7'.out (p := ⟨bj, 0, none⟩) HLT.out (.int .i64 z.f0)) (p := ⟨bj, 1, none⟩) HLT.out (.slice A7 z.f1.length c7)) (p := ⟨bj, 2, none⟩) HLT.out (.slice B7 z.f2.length k7))
          have RC1 := Lib.hid RC
          have RG1 := Lib.hid RG
          clear RC RG
          go_roundw
          case rel => exact ⟨i + 1, by omega, by omega, by go_num, z, A7, c7, B7, k7, HT, Lib.hid RC1.out.2.2, Lib.hid RG1.out.2.2, Lib.hid ⟨RC1.out.2.1, RG1.out.2.1⟩, HCI2, HBt⟩
          case measure => simp [intOf]; omega

      · obtain rfl : i = m := by omega
        obtain ⟨m, hm⟩ : ∃ m, m = i := ⟨_, rfl⟩
        rw [← hm] at HCI HCd hmn hi1 h0m ⊢
        clear hm
        have h0n : (0 : Int) < (n : Int) := by omega
        have h0N : 0 < n := by omega
        obtain ⟨ad0, P1, q1, hA1, e0, e1, hl1, hC1⟩ := at_T24 HC2.out (0 : Int) (by omega) (by rw [← Hn.out]; exact h0n)
        subst hA1
        have hso1 : so l 0 = soundS (rd_T24 l (0 : Int)) := rfl
        generalize rd_T24 l (0 : Int) = s1 at *
        simp only [Int.toNat_zero, Nat.zero_mul, addr_add_zero] at e0 e1
        replace e0 := pw_cell_below HBi.out e0
        replace e1 := pw_cell_below HBi.out e1
        have HS1 : Hid (∀ W, Below w2.heap.size w2 W → Calls Try.prog 25 #[.agg #[.int .i64 s1.f0, .slice P1 s1.f1.length q1]] W fun e' w' => SR (so l 0) w2 W e' w') := Lib.hid (fun W h => by rw [hso1]; exact sound25 s1 P1 q1 w2 W hC1 hl1 h)
        clear hso1 hC1 hl1
        obtain ⟨x, hx⟩ : ∃ x, x = so l 0 := ⟨_, rfl⟩
        rw [← hx] at HS1
        have HP15 : Hid (∀ W (A3 : Option Addr) (c3 : Nat), Kd.C k63 w2 A3 x.f1.length x.f1 → x.f1.length ≤ c3 → Below wr.heap.size wr W → Calls Try.prog 15 #[.agg #[.int .i64 x.f0, .slice A3 x.f1.length c3], .agg #[.int .i64 j.f0, .slice A6 j.f1.length c6, .slice B6 j.f2.length k6]] W fun e' w' => SAR (applyS x j) (applyE x j) W e' w') := Lib.hid (fun W A3 c3 h3 l3 h => applyR15 x j A3 A6 B6 c3 c6 k6 W (Kd.C_below h3 (HBi.out.trans (h.mono HBi.out.size))) (Kd.C_below HJC.out h) (Kd.C_below HJG.out h) l3 HJL.out.1)
        generalize hz : applyS x j = t at HP15
        have X5 : Hid (applyS (so l 0) j = t) := Lib.hid (by rw [← hx]; exact hz)
        clear hz
        generalize hz : applyE x j = m5 at HP15
        have M5 : Hid (applyE (so l 0) j = m5) := Lib.hid (by rw [← hx]; exact hz)
        clear hz hx
        go_upto_region 23 with (fail)
        refine start_ (n := 12) (S := (fun w' => w'.cell? ad0 = some (.int .i64 s1.f0) ∧ w'.cell? ⟨ad0.block, ad0.off + 1, none⟩ = some (.slice P1 s1.f1.length q1) ∧ w'.cell? ⟨bj, 0, none⟩ = some (.int .i64 j.f0) ∧ w'.cell? ⟨bj, 1, none⟩ = some (.slice A6 j.f1.length c6) ∧ w'.cell? ⟨bj, 2, none⟩ = some (.slice B6 j.f2.length k6))) (ds := [10]) #[false, false, false, false, false, false, false, false, false, false, false, false] (by kernel_rfl) rfl rfl ⟨e0, e1, y0, y1, y2⟩ (fun hHeld => ?_)
        have HV0 : Hid (Below wr.heap.size wr wr.drew) := (Below.refl _ _).drew
        generalize wr.drew = V0 at hHeld HV0  ⊢
        refine pure_ (i := 0) (N := some 75) (v := ?_) (a' := ?_) #[true, false, false, false, false, false, false, false, false, false, false, false] rfl rfl (by kernel_rfl) (fun _ _ _ h => h) (Or.inl ⟨by rfl, ?_⟩) ?_ ?_
        rotate_left
        · intro w'
          go_simp
          with_reducible rfl
        rotate_left
        · simp only [Act.put, List.setIfInBounds_toArray, List.set_cons_zero, List.set_cons_succ]
          rfl
        refine pure_ (i := 1) (N := some 76) (v := ?_) (a' := ?_) #[true, true, false, false, false, false, false, false, false, false, false, false] rfl rfl (by kernel_rfl) (fun _ _ _ h => h) (Or.inl ⟨by rfl, ?_⟩) ?_ ?_
        rotate_left
        · intro w'
          go_simp
          with_reducible rfl
        rotate_left
        · simp only [Act.put, List.setIfInBounds_toArray, List.set_cons_zero, List.set_cons_succ]
          rfl
        refine take_ (i := 2) (N := some 77) (v := ?_) (a' := ?_) #[true, true, true, false, false, false, false, false, false, false, false, false] rfl rfl (by kernel_rfl) (fun _ _ _ h => h) (Or.inl ⟨by rfl, ?_⟩) hHeld ?_ ?_
        rotate_left
        · rintro w' ⟨s0, s1, s2, s3, s4⟩
          go_simp
          with_reducible rfl
        rotate_left
        · simp only [Act.put, List.setIfInBounds_toArray, List.set_cons_zero, List.set_cons_succ]
          rfl
        refine take_ (i := 4) (N := some 79) (v := ?_) (a' := ?_) #[true, true, true, false, true, false, false, false, false, false, false, false] rfl rfl (by kernel_rfl) (fun _ _ _ h => h) (Or.inl ⟨by rfl, ?_⟩) hHeld ?_ ?_
        rotate_left
        · rintro w' ⟨s0, s1, s2, s3, s4⟩
          go_simp
          with_reducible rfl
        rotate_left
        · simp only [Act.put, List.setIfInBounds_toArray, List.set_cons_zero, List.set_cons_succ]
          rfl
        refine two_ (i := 3) (j := 9) (Ni := some 78) (Nj := some 11) #[true, true, true, true, true, false, false, false, false, false, false, false] #[true, true, true, false, true, false, false, false, false, true, false, false] rfl rfl rfl rfl (by kernel_rfl) (by decide) (by decide) (fun K hK => ?_) (fun K hK => ?_)
        · refine goes_ Try.func25 (by kernel_rfl) rfl #[.agg #[.int .i64 s1.f0, .slice P1 s1.f1.length q1]] (by rfl) rfl rfl (by simp only [List.map_toArray, List.map_cons, List.map_nil]; rfl) ?_
          refine ((HS1.out V0 (HBi.out.trans (HV0.out.mono HBi.out.size)))).mono ?_
          rintro e' V1 ⟨A3, c3, rfl, C3, hb, L3⟩
          refine ⟨_, rfl, ?_⟩
          have HV1 : Hid (Below wr.heap.size wr V1) := HV0.out.trans (hb.out.mono HV0.out.size)
          refine hK.out _ _ ⟨pw_cell_below hb.out hHeld.1, pw_cell_below hb.out hHeld.2.1, pw_cell_below hb.out hHeld.2.2.1, pw_cell_below hb.out hHeld.2.2.2.1, pw_cell_below hb.out hHeld.2.2.2.2⟩ (fun hHeld => ?_)
          clear hK K hb
          refine norm_ (a' := ?_) ?_ ?_
          rotate_left
          · show Act.put _ (some 78) _ = _
            simp only [Act.put, List.setIfInBounds_toArray, List.set_cons_zero, List.set_cons_succ]
            rfl
          refine two_ (i := 5) (j := 9) (Ni := some 80) (Nj := some 11) #[true, true, true, true, true, true, false, false, false, false, false, false] #[true, true, true, true, true, false, false, false, false, true, false, false] rfl rfl rfl rfl (by kernel_rfl) (by decide) (by decide) (fun K hK => ?_) (fun K hK => ?_)
          · refine goes_ Try.func15 (by kernel_rfl) rfl #[.agg #[.int .i64 x.f0, .slice A3 x.f1.length c3], .agg #[.int .i64 j.f0, .slice A6 j.f1.length c6, .slice B6 j.f2.length k6]] (by rfl) rfl rfl (by simp only [List.map_toArray, List.map_cons, List.map_nil]; rfl) ?_
            refine ((HP15.out V1 A3 c3 C3.out L3.out HV1.out)).mono ?_
            rintro e' V2 ⟨A8, c8, rfl, R8, hb⟩
            refine ⟨_, rfl, ?_⟩
            have HV2 : Hid (Below wr.heap.size wr V2) := HV1.out.trans (hb.out.mono HV1.out.size)
            replace R8 := Lib.hid (Kd.R_lower R8.out HV1.out.size)
            refine hK.out _ _ ⟨pw_cell_below hb.out hHeld.1, pw_cell_below hb.out hHeld.2.1, pw_cell_below hb.out hHeld.2.2.1, pw_cell_below hb.out hHeld.2.2.2.1, pw_cell_below hb.out hHeld.2.2.2.2⟩ (fun hHeld => ?_)
            clear hK K hb
            refine norm_ (a' := ?_) ?_ ?_
            rotate_left
            · show Act.put _ (some 80) _ = _
              simp only [Act.put, List.setIfInBounds_toArray, List.set_cons_zero, List.set_cons_succ]
              rfl
            refine pure_ (i := 6) (N := some 74) (v := ?_) (a' := ?_) #[true, true, true, true, true, true, true, false, false, false, false, false] rfl rfl (by kernel_rfl) (fun _ _ _ h => h) (Or.inl ⟨by rfl, ?_⟩) ?_ ?_
            rotate_left
            · intro w'
              go_simp
              with_reducible rfl
            rotate_left
            · simp only [Act.put, List.setIfInBounds_toArray, List.set_cons_zero, List.set_cons_succ]
              rfl
            refine pure_ (i := 7) (N := some 81) (v := ?_) (a' := ?_) #[true, true, true, true, true, true, true, true, false, false, false, false] rfl rfl (by kernel_rfl) (fun _ _ _ h => h) (Or.inl ⟨by rfl, ?_⟩) ?_ ?_
            rotate_left
            · intro w'
              go_simp
              with_reducible rfl
            rotate_left
            · simp only [Act.put, List.setIfInBounds_toArray, List.set_cons_zero, List.set_cons_succ]
              rfl
            refine pure_ (i := 8) (N := some 82) (v := ?_) (a' := ?_) #[true, true, true, true, true, true, true, true, true, false, false, false] rfl rfl (by kernel_rfl) (fun _ _ _ h => h) (Or.inl ⟨by rfl, ?_⟩) ?_ ?_
            rotate_left
            · intro w'
              go_simp
              with_reducible rfl
            rotate_left
            · simp only [Act.put, List.setIfInBounds_toArray, List.set_cons_zero, List.set_cons_succ]
              rfl
            refine one_ (i := 9) (N := some 11) #[true, true, true, true, true, true, true, true, true, true, false, false] rfl rfl (by kernel_rfl) (by decide) (fun K hK => ?_)
            obtain ⟨nb, hnb⟩ : ∃ nb, nb = V2.heap.size := ⟨_, rfl⟩
            refine value_ (w1 := (V2.alloc (.cells #[.int .i64 0, .slice none 0 0] 24))) (v := .pointer (some ⟨nb, 0, none⟩)) (by rfl) rfl (by rw [hnb]; go_simp) ?_
            have hal : Hid (Below V2.heap.size V2 (V2.alloc (.cells #[.int .i64 0, .slice none 0 0] 24))) := Lib.hid ((Below.refl _ _).alloc (Nat.le_refl _) _)
            have HN9 : Hid ((V2.alloc (.cells #[.int .i64 0, .slice none 0 0] 24)).heap[nb]? = some (.cells #[.int .i64 0, .slice none 0 0] 24 (0, 0))) := by rw [hnb]; exact Lib.hid (blk_new _ _)
            have hnb9 : Hid (wr.heap.size ≤ nb) := by rw [hnb]; exact Lib.hid HV2.out.size
            refine hK.out _ _ ⟨pw_cell_below hal.out hHeld.1, pw_cell_below hal.out hHeld.2.1, pw_cell_below hal.out hHeld.2.2.1, pw_cell_below hal.out hHeld.2.2.2.1, pw_cell_below hal.out hHeld.2.2.2.2⟩ (fun hHeld => ?_)
            clear hK K hnb
            generalize (V2.alloc (.cells #[.int .i64 0, .slice none 0 0] 24)) = V3 at hHeld hal HN9 ⊢
            replace R8 := Lib.hid (Kd.R_below R8.out hal.out)
            have HV3 : Hid (Below wr.heap.size wr V3) := HV2.out.trans (hal.out.mono HV2.out.size)
            clear hal
            refine norm_ (a' := ?_) ?_ ?_
            rotate_left
            · show Act.put _ (some 11) _ = _
              simp only [Act.put, List.setIfInBounds_toArray, List.set_cons_zero, List.set_cons_succ]
              rfl
            refine last_ (i := 10) (N := none) #[true, true, true, true, true, true, true, true, true, true, true, false] rfl rfl (by kernel_rfl) (by decide) (fun K hK => ?_)
            have x0 : V3.cell? ⟨nb, 0, none⟩ = some (.int .i64 0) := blk_at HN9.out 0 rfl
            have z0 : V3.frozen? ⟨nb, 0, none⟩ = false := blk_frozen HN9.out 0
            have x1 : V3.cell? ⟨nb, 1, none⟩ = some (.slice none 0 0) := blk_at HN9.out 1 rfl
            have z1 : V3.frozen? ⟨nb, 1, none⟩ = false := blk_frozen HN9.out 1
            refine skip_ (w1 := ((V3.setCell ⟨nb, 0, none⟩ (.int .i64 t.f0)).setCell ⟨nb, 1, none⟩ (.slice A8 t.f1.length c8))) (by rfl) rfl (by go_simp) ?_
            refine hK.out _ _ ?_
            have R8' := Lib.hid (Kd.R_set (Kd.R_set R8.out HN9.out (by decide) 0 (.int .i64 t.f0)) (blk_put HN9.out 0 (.int .i64 t.f0) rfl) (by decide) 1 (.slice A8 t.f1.length c8))
            have HN9' := Lib.hid (blk_put (blk_put HN9.out 0 (.int .i64 t.f0) rfl) 1 (.slice A8 t.f1.length c8) rfl)
            have HB9 : Hid (Below wr.heap.size wr ((V3.setCell ⟨nb, 0, none⟩ (.int .i64 t.f0)).setCell ⟨nb, 1, none⟩ (.slice A8 t.f1.length c8))) := Lib.hid ((HV3.out.setCell (p := ⟨nb, 0, none⟩) hnb9.out _).setCell (p := ⟨nb, 1, none⟩) hnb9.out _)
            clear hK K hHeld x0 z0 x1 z1 R8 HN9 HV0 HV1 HV2 HV3
            generalize ((V3.setCell ⟨nb, 0, none⟩ (.int .i64 t.f0)).setCell ⟨nb, 1, none⟩ (.slice A8 t.f1.length c8)) = W9 at *
            refine pure_ (i := 11) (N := some 12) (v := ?_) (a' := ?_) #[true, true, true, true, true, true, true, true, true, true, true, true] rfl rfl (by kernel_rfl) (fun _ _ _ h => h) (Or.inl ⟨by rfl, ?_⟩) ?_ ?_
            rotate_left
            · intro w'
              go_simp
              with_reducible rfl
            rotate_left
            · simp only [Act.put, List.setIfInBounds_toArray, List.set_cons_zero, List.set_cons_succ]
              rfl
            refine done_ (by kernel_rfl) ?_
            have HBj : Hid (Below w2.heap.size w2 W9) := HBi.out.trans (HB9.out.mono HBi.out.size)
            have HBw : Hid (Below w.heap.size w W9) := HB2.out.trans (HBj.out.mono HB2.out.size)
            have RC := Lib.hid (Kd.R_reads' R8'.out)
            by_cases qm : m5 = 0
            rotate_left
            · have q9 : m5 = 110 := by
                rcases leads_apply (so_fit l 0) HCI.out.fit HCI.out.leads (chkS_ok (so_fit l m)).1 with q | q
                · rw [← M5.out]; exact q
                · exact absurd (M5.out.symm.trans q.1) qm
              subst q9
              clear qm
              go_wp2_with (fail)
              go_ret
              exact ⟨rfl, HBw.out⟩
            subst qm
            have HTE : Hid (t = so l m) := Lib.hid (by
              rcases leads_apply (so_fit l 0) HCI.out.fit HCI.out.leads (chkS_ok (so_fit l m)).1 with q | q
              · rw [M5.out] at q; simp at q
              · rw [← X5.out]; exact q.2)
            have n0' : W9.cell? ⟨nb, 0, none⟩ = some (.int .i64 t.f0) := blk_at HN9'.out 0 rfl
            have n1' : W9.cell? ⟨nb, 1, none⟩ = some (.slice A8 t.f1.length c8) := blk_at HN9'.out 1 rfl
            obtain ⟨adm, P2, q2, hAm, f0, f1, hlm2, hCm⟩ := at_T24 HC2.out (m : Int) (by omega) (by rw [← Hn.out]; omega)
            obtain rfl : ad0 = adm := by injection hAm
            clear hAm
            have hxm : l.getD m z24 = rd_T24 l (m : Int) := by unfold rd_T24; rw [Int.toNat_natCast]
            have hsom : so l m = soundS (rd_T24 l (m : Int)) := by unfold so; rw [hxm]
            generalize rd_T24 l (m : Int) = s2 at *
            rw [Int.toNat_natCast] at f0 f1
            replace f0 := pw_cell_below HBj.out f0
            replace f1 := pw_cell_below HBj.out f1
            have HSm : Hid (∀ W, Below w2.heap.size w2 W → Calls Try.prog 25 #[.agg #[.int .i64 s2.f0, .slice P2 s2.f1.length q2]] W fun e' w' => SR (so l m) w2 W e' w') := Lib.hid (fun W h => by rw [hsom]; exact sound25 s2 P2 q2 w2 W hCm hlm2 h)
            clear hxm hsom
            generalize hz : so l m = y at HSm HTE
            have Hy := Lib.hid hz
            clear hz
            have HP18 : Hid (∀ W A4 c4, Kd.C k63 w2 A4 y.f1.length y.f1 → Below W9.heap.size W9 W → Calls Try.prog 18 #[.agg #[.int .i64 t.f0, .slice A8 t.f1.length c8], .agg #[.int .i64 y.f0, .slice A4 y.f1.length c4]] W fun e' w' => SaysB true W e' w') := Lib.hid (fun W A4 c4 h4 h => by
              have := sameS18 t y A8 A4 c8 c4 W9 W RC.out.2.2 (Kd.C_below h4 HBj.out) h
              rw [eqB_true HTE.out] at this
              exact this)
            have i0 : (0 : Int) ≤ (m : Int) := by omega
            have i1 : (m : Int) < (n : Int) := by omega
            have i3 : (n : Int) - 1 = (m : Int) := by omega
            have i4 : IntKind.i64.wrap (m : Int) = (m : Int) := by rw [IntKind.wrap_i64] <;> omega
            go_upto_region 26 with (fail)
            refine start_ (n := 10) (S := (fun w' => w'.cell? ⟨nb, 0, none⟩ = some (.int .i64 t.f0) ∧ w'.cell? ⟨nb, 1, none⟩ = some (.slice A8 t.f1.length c8) ∧ w'.cell? (ad0.add (m * 2)) = some (.int .i64 s2.f0) ∧ w'.cell? ⟨(ad0.add (m * 2)).block, (ad0.add (m * 2)).off + 1, none⟩ = some (.slice P2 s2.f1.length q2))) (ds := [8]) #[false, false, false, false, false, false, false, false, false, false] (by kernel_rfl) rfl rfl ⟨n0', n1', f0, f1⟩ (fun hHeld => ?_)
            have HV0 : Hid (Below W9.heap.size W9 W9.drew) := (Below.refl _ _).drew
            generalize W9.drew = V0 at hHeld HV0  ⊢
            refine take_ (i := 0) (N := some 87) (v := ?_) (a' := ?_) #[true, false, false, false, false, false, false, false, false, false] rfl rfl (by kernel_rfl) (fun _ _ _ h => h) (Or.inl ⟨by rfl, ?_⟩) hHeld ?_ ?_
            rotate_left
            · rintro w' ⟨s0, s1, s2, s3⟩
              go_simp
              with_reducible rfl
            rotate_left
            · simp only [Act.put, List.setIfInBounds_toArray, List.set_cons_zero, List.set_cons_succ]
              rfl
            refine pure_ (i := 1) (N := some 88) (v := ?_) (a' := ?_) #[true, true, false, false, false, false, false, false, false, false] rfl rfl (by kernel_rfl) (fun _ _ _ h => h) (Or.inl ⟨by rfl, ?_⟩) ?_ ?_
            rotate_left
            · intro w'
              go_simp
              with_reducible rfl
            rotate_left
            · simp only [Act.put, List.setIfInBounds_toArray, List.set_cons_zero, List.set_cons_succ]
              rfl
            refine pure_ (i := 2) (N := some 89) (v := ?_) (a' := ?_) #[true, true, true, false, false, false, false, false, false, false] rfl rfl (by kernel_rfl) (fun _ _ _ h => h) (Or.inl ⟨by rfl, ?_⟩) ?_ ?_
            rotate_left
            · intro w'
              go_simp
              with_reducible rfl
            rotate_left
            · simp only [Act.put, List.setIfInBounds_toArray, List.set_cons_zero, List.set_cons_succ]
              rfl
            refine pure_ (i := 3) (N := some 90) (v := ?_) (a' := ?_) #[true, true, true, true, false, false, false, false, false, false] rfl rfl (by kernel_rfl) (fun _ _ _ h => h) (Or.inl ⟨by rfl, ?_⟩) ?_ ?_
            rotate_left
            · intro w'
              go_simp
              with_reducible rfl
            rotate_left
            · simp only [Act.put, List.setIfInBounds_toArray, List.set_cons_zero, List.set_cons_succ]
              rfl
            refine pure_ (i := 4) (N := some 91) (v := ?_) (a' := ?_) #[true, true, true, true, true, false, false, false, false, false] rfl rfl (by kernel_rfl) (fun _ _ _ h => h) (Or.inl ⟨by rfl, ?_⟩) ?_ ?_
            rotate_left
            · intro w'
              go_simp
              with_reducible rfl
            rotate_left
            · simp only [Act.put, List.setIfInBounds_toArray, List.set_cons_zero, List.set_cons_succ]
              rfl
            refine pure_ (i := 5) (N := some 92) (v := ?_) (a' := ?_) #[true, true, true, true, true, true, false, false, false, false] rfl rfl (by kernel_rfl) (fun _ _ _ h => h) (Or.inl ⟨by rfl, ?_⟩) ?_ ?_
            rotate_left
            · intro w'
              go_simp
              with_reducible rfl
            rotate_left
            · simp only [Act.put, List.setIfInBounds_toArray, List.set_cons_zero, List.set_cons_succ]
              rfl
            refine take_ (i := 6) (N := some 93) (v := ?_) (a' := ?_) #[true, true, true, true, true, true, true, false, false, false] rfl rfl (by kernel_rfl) (fun _ _ _ h => h) (Or.inl ⟨by rfl, ?_⟩) hHeld ?_ ?_
            rotate_left
            · rintro w' ⟨s0, s1, s2, s3⟩
              go_simp
              with_reducible rfl
            rotate_left
            · simp only [Act.put, List.setIfInBounds_toArray, List.set_cons_zero, List.set_cons_succ]
              rfl
            refine one_ (i := 7) (N := some 94) #[true, true, true, true, true, true, true, true, false, false] rfl rfl (by kernel_rfl) (by decide) (fun K hK => ?_)
            refine goes_ Try.func25 (by kernel_rfl) rfl #[.agg #[.int .i64 s2.f0, .slice P2 s2.f1.length q2]] (by rfl) rfl rfl (by simp only [List.map_toArray, List.map_cons, List.map_nil]; rfl) ?_
            refine ((HSm.out V0 (HBj.out.trans (HV0.out.mono HBj.out.size)))).mono ?_
            rintro e' V1 ⟨A4, c4, rfl, C4, hb, L4⟩
            refine ⟨_, rfl, ?_⟩
            have HV1 : Hid (Below W9.heap.size W9 V1) := HV0.out.trans (hb.out.mono HV0.out.size)
            refine hK.out _ _ ⟨pw_cell_below hb.out hHeld.1, pw_cell_below hb.out hHeld.2.1, pw_cell_below hb.out hHeld.2.2.1, pw_cell_below hb.out hHeld.2.2.2⟩ (fun hHeld => ?_)
            clear hK K hb
            refine norm_ (a' := ?_) ?_ ?_
            rotate_left
            · show Act.put _ (some 94) _ = _
              simp only [Act.put, List.setIfInBounds_toArray, List.set_cons_zero, List.set_cons_succ]
              rfl
            refine last_ (i := 8) (N := some 95) #[true, true, true, true, true, true, true, true, true, false] rfl rfl (by kernel_rfl) (by decide) (fun K hK => ?_)
            refine goes_ Try.func18 (by kernel_rfl) rfl #[.agg #[.int .i64 t.f0, .slice A8 t.f1.length c8], .agg #[.int .i64 y.f0, .slice A4 y.f1.length c4]] (by rfl) rfl rfl (by simp only [List.map_toArray, List.map_cons, List.map_nil]; rfl) ?_
            refine ((HP18.out V1 A4 c4 C4.out HV1.out)).mono ?_
            rintro e' V2 ⟨rfl, hb⟩
            refine ⟨_, rfl, ?_⟩
            have HV2 : Hid (Below W9.heap.size W9 V2) := HV1.out.trans (hb.out.mono HV1.out.size)
            refine hK.out _ _ ?_
            clear hK K hb hHeld
            refine norm_ (a' := ?_) ?_ ?_
            rotate_left
            · show Act.put _ (some 95) _ = _
              simp only [Act.put, List.setIfInBounds_toArray, List.set_cons_zero, List.set_cons_succ]
              rfl
            refine pure_ (i := 9) (N := some 96) (v := ?_) (a' := ?_) #[true, true, true, true, true, true, true, true, true, true] rfl rfl (by kernel_rfl) (fun _ _ _ h => h) (Or.inl ⟨by rfl, ?_⟩) ?_ ?_
            rotate_left
            · intro w'
              go_simp
              with_reducible rfl
            rotate_left
            · simp only [Act.put, List.setIfInBounds_toArray, List.set_cons_zero, List.set_cons_succ]
              rfl
            refine done_ (by kernel_rfl) ?_
            clear HN9'
            have HBf0 : Hid (Below w2.heap.size w2 V2) := HBj.out.trans (HV2.out.mono HBj.out.size)
            obtain ⟨w6, hw6⟩ : ∃ w6, w6 = V2 := ⟨_, rfl⟩
            rw [← hw6] at HBf0 ⊢
            clear hw6
            have HBf : Hid (Below w.heap.size w w6) := HB2.out.trans (HBf0.out.mono HB2.out.size)
            by_cases h3 : m < 3
            · have h4 : (m : Int) < 3 := by omega
              go_wp2_with (fail)
              go_ret
              exact ⟨rfl, HBf.out⟩
            have h4 : ¬ (m : Int) < 3 := by omega
            have h50 : 0 < m := by omega
            have h51 : 1 < m := by omega
            have h52 : 2 < m := by omega
            have h53 : (0 : Int) < (m : Int) := by omega
            have h54 : (1 : Int) < (m : Int) := by omega
            have h55 : (2 : Int) < (m : Int) := by omega
            obtain ⟨adx0, A10, c10, B10, k10, hA0, g00, g01, g02, hl0, hC0, hm0, hG0⟩ := at_T27 HCd.out (0 : Int) (by omega) (by omega)
            generalize rd_T27 (difs l m) (0 : Int) = d0 at *
            obtain ⟨adx1, A11, c11, B11, k11, hA1, g10, g11, g12, hl1, hC1, hm1, hG1⟩ := at_T27 HCd.out (1 : Int) (by omega) (by omega)
            generalize rd_T27 (difs l m) (1 : Int) = d1 at *
            obtain ⟨adx2, A12, c12, B12, k12, hA2, g20, g21, g22, hl2, hC2, hm2, hG2⟩ := at_T27 HCd.out (2 : Int) (by omega) (by omega)
            generalize rd_T27 (difs l m) (2 : Int) = d2 at *
            obtain rfl : ad = adx0 := by injection hA0
            obtain rfl : ad = adx1 := by injection hA1
            obtain rfl : ad = adx2 := by injection hA2
            clear hA0 hA1 hA2
            simp only [Int.toNat_zero, Nat.zero_mul, addr_add_zero] at g00 g01 g02
            rw [show (1 : Int).toNat * 3 = 3 from rfl, show ad.add 3 = ⟨ad.block, ad.off + 3, none⟩ from rfl] at g10 g11 g12
            dsimp only at g10 g11 g12
            rw [show (2 : Int).toNat * 3 = 6 from rfl, show ad.add 6 = ⟨ad.block, ad.off + 6, none⟩ from rfl] at g20 g21 g22
            dsimp only at g20 g21 g22
            replace g00 := pw_cell_below HBf0.out g00
            replace g01 := pw_cell_below HBf0.out g01
            replace g02 := pw_cell_below HBf0.out g02
            replace g10 := pw_cell_below HBf0.out g10
            replace g11 := pw_cell_below HBf0.out g11
            replace g12 := pw_cell_below HBf0.out g12
            replace g20 := pw_cell_below HBf0.out g20
            replace g21 := pw_cell_below HBf0.out g21
            replace g22 := pw_cell_below HBf0.out g22
            have HP28 : Hid (∀ W, Below w6.heap.size w6 W → Calls Try.prog 28 #[.agg #[.int .i64 d0.f0, .slice A10 d0.f1.length c10, .slice B10 d0.f2.length k10], .agg #[.int .i64 d1.f0, .slice A11 d1.f1.length c11, .slice B11 d1.f2.length k11], .agg #[.int .i64 d2.f0, .slice A12 d2.f1.length c12, .slice B12 d2.f2.length k12]] W fun e' w' => SaysB true W e' w') := Lib.hid (fun W h => by
              have h2 : Below w2.heap.size w2 W := HBf0.out.trans (h.mono HBf0.out.size)
              have := assoc28 d0 d1 d2 A10 B10 A11 B11 A12 B12 c10 k10 c11 k11 c12 k12 W (Kd.C_below hC0 h2) (Kd.C_below hG0 h2) (Kd.C_below hC1 h2) (Kd.C_below hG1 h2) (Kd.C_below hC2 h2) (Kd.C_below hG2 h2)
              rw [assocP_true] at this
              exact this)
            go_upto_region 30 with (fail)
            refine start_ (n := 11) (S := (fun w' => w'.cell? ad = some (.int .i64 d0.f0) ∧ w'.cell? ⟨ad.block, ad.off + 1, none⟩ = some (.slice A10 d0.f1.length c10) ∧ w'.cell? ⟨ad.block, ad.off + 2, none⟩ = some (.slice B10 d0.f2.length k10) ∧ w'.cell? ⟨ad.block, ad.off + 3, none⟩ = some (.int .i64 d1.f0) ∧ w'.cell? ⟨ad.block, ad.off + 3 + 1, none⟩ = some (.slice A11 d1.f1.length c11) ∧ w'.cell? ⟨ad.block, ad.off + 3 + 2, none⟩ = some (.slice B11 d1.f2.length k11) ∧ w'.cell? ⟨ad.block, ad.off + 6, none⟩ = some (.int .i64 d2.f0) ∧ w'.cell? ⟨ad.block, ad.off + 6 + 1, none⟩ = some (.slice A12 d2.f1.length c12) ∧ w'.cell? ⟨ad.block, ad.off + 6 + 2, none⟩ = some (.slice B12 d2.f2.length k12))) (ds := [9]) #[false, false, false, false, false, false, false, false, false, false, false] (by kernel_rfl) rfl rfl ⟨g00, g01, g02, g10, g11, g12, g20, g21, g22⟩ (fun hHeld => ?_)
            have HV0 : Hid (Below w6.heap.size w6 w6.drew) := (Below.refl _ _).drew
            generalize w6.drew = V0 at hHeld HV0  ⊢
            refine pure_ (i := 0) (N := some 100) (v := ?_) (a' := ?_) #[true, false, false, false, false, false, false, false, false, false, false] rfl rfl (by kernel_rfl) (fun _ _ _ h => h) (Or.inl ⟨by rfl, ?_⟩) ?_ ?_
            rotate_left
            · intro w'
              go_simp
              with_reducible rfl
            rotate_left
            · simp only [Act.put, List.setIfInBounds_toArray, List.set_cons_zero, List.set_cons_succ]
              rfl
            refine pure_ (i := 1) (N := some 101) (v := ?_) (a' := ?_) #[true, true, false, false, false, false, false, false, false, false, false] rfl rfl (by kernel_rfl) (fun _ _ _ h => h) (Or.inl ⟨by rfl, ?_⟩) ?_ ?_
            rotate_left
            · intro w'
              go_simp
              with_reducible rfl
            rotate_left
            · simp only [Act.put, List.setIfInBounds_toArray, List.set_cons_zero, List.set_cons_succ]
              rfl
            refine take_ (i := 2) (N := some 102) (v := ?_) (a' := ?_) #[true, true, true, false, false, false, false, false, false, false, false] rfl rfl (by kernel_rfl) (fun _ _ _ h => h) (Or.inl ⟨by rfl, ?_⟩) hHeld ?_ ?_
            rotate_left
            · rintro w' ⟨s0, s1, s2, s3, s4, s5, s6, s7, s8⟩
              go_simp
              with_reducible rfl
            rotate_left
            · simp only [Act.put, List.setIfInBounds_toArray, List.set_cons_zero, List.set_cons_succ]
              rfl
            refine pure_ (i := 3) (N := some 103) (v := ?_) (a' := ?_) #[true, true, true, true, false, false, false, false, false, false, false] rfl rfl (by kernel_rfl) (fun _ _ _ h => h) (Or.inl ⟨by rfl, ?_⟩) ?_ ?_
            rotate_left
            · intro w'
              go_simp
              with_reducible rfl
            rotate_left
            · simp only [Act.put, List.setIfInBounds_toArray, List.set_cons_zero, List.set_cons_succ]
              rfl
            refine pure_ (i := 4) (N := some 104) (v := ?_) (a' := ?_) #[true, true, true, true, true, false, false, false, false, false, false] rfl rfl (by kernel_rfl) (fun _ _ _ h => h) (Or.inl ⟨by rfl, ?_⟩) ?_ ?_
            rotate_left
            · intro w'
              go_simp
              with_reducible rfl
            rotate_left
            · simp only [Act.put, List.setIfInBounds_toArray, List.set_cons_zero, List.set_cons_succ]
              rfl
            refine take_ (i := 5) (N := some 105) (v := ?_) (a' := ?_) #[true, true, true, true, true, true, false, false, false, false, false] rfl rfl (by kernel_rfl) (fun _ _ _ h => h) (Or.inl ⟨by rfl, ?_⟩) hHeld ?_ ?_
            rotate_left
            · rintro w' ⟨s0, s1, s2, s3, s4, s5, s6, s7, s8⟩
              go_simp
              with_reducible rfl
            rotate_left
            · simp only [Act.put, List.setIfInBounds_toArray, List.set_cons_zero, List.set_cons_succ]
              rfl
            refine pure_ (i := 6) (N := some 106) (v := ?_) (a' := ?_) #[true, true, true, true, true, true, true, false, false, false, false] rfl rfl (by kernel_rfl) (fun _ _ _ h => h) (Or.inl ⟨by rfl, ?_⟩) ?_ ?_
            rotate_left
            · intro w'
              go_simp
              with_reducible rfl
            rotate_left
            · simp only [Act.put, List.setIfInBounds_toArray, List.set_cons_zero, List.set_cons_succ]
              rfl
            refine pure_ (i := 7) (N := some 107) (v := ?_) (a' := ?_) #[true, true, true, true, true, true, true, true, false, false, false] rfl rfl (by kernel_rfl) (fun _ _ _ h => h) (Or.inl ⟨by rfl, ?_⟩) ?_ ?_
            rotate_left
            · intro w'
              go_simp
              with_reducible rfl
            rotate_left
            · simp only [Act.put, List.setIfInBounds_toArray, List.set_cons_zero, List.set_cons_succ]
              rfl
            refine take_ (i := 8) (N := some 108) (v := ?_) (a' := ?_) #[true, true, true, true, true, true, true, true, true, false, false] rfl rfl (by kernel_rfl) (fun _ _ _ h => h) (Or.inl ⟨by rfl, ?_⟩) hHeld ?_ ?_
            rotate_left
            · rintro w' ⟨s0, s1, s2, s3, s4, s5, s6, s7, s8⟩
              go_simp
              with_reducible rfl
            rotate_left
            · simp only [Act.put, List.setIfInBounds_toArray, List.set_cons_zero, List.set_cons_succ]
              rfl
            refine last_ (i := 9) (N := some 109) #[true, true, true, true, true, true, true, true, true, true, false] rfl rfl (by kernel_rfl) (by decide) (fun K hK => ?_)
            refine goes_ Try.func28 (by kernel_rfl) rfl #[.agg #[.int .i64 d0.f0, .slice A10 d0.f1.length c10, .slice B10 d0.f2.length k10], .agg #[.int .i64 d1.f0, .slice A11 d1.f1.length c11, .slice B11 d1.f2.length k11], .agg #[.int .i64 d2.f0, .slice A12 d2.f1.length c12, .slice B12 d2.f2.length k12]] (by rfl) rfl rfl (by simp only [List.map_toArray, List.map_cons, List.map_nil]; rfl) ?_
            refine ((HP28.out V0 HV0.out)).mono ?_
            rintro e' V1 ⟨rfl, hb⟩
            refine ⟨_, rfl, ?_⟩
            have HV1 : Hid (Below w6.heap.size w6 V1) := HV0.out.trans (hb.out.mono HV0.out.size)
            refine hK.out _ _ ?_
            clear hK K hb hHeld
            refine norm_ (a' := ?_) ?_ ?_
            rotate_left
            · show Act.put _ (some 109) _ = _
              simp only [Act.put, List.setIfInBounds_toArray, List.set_cons_zero, List.set_cons_succ]
              rfl
            refine pure_ (i := 10) (N := some 2) (v := ?_) (a' := ?_) #[true, true, true, true, true, true, true, true, true, true, true] rfl rfl (by kernel_rfl) (fun _ _ _ h => h) (Or.inl ⟨by rfl, ?_⟩) ?_ ?_
            rotate_left
            · intro w'
              go_simp
              with_reducible rfl
            rotate_left
            · simp only [Act.put, List.setIfInBounds_toArray, List.set_cons_zero, List.set_cons_succ]
              rfl
            refine done_ (by kernel_rfl) ?_
            go_wp2_with (fail)
            go_ret
            exact ⟨rfl, HBf.out.trans (HV1.out.mono HBf.out.size)⟩
          · obtain ⟨nb, hnb⟩ : ∃ nb, nb = V1.heap.size := ⟨_, rfl⟩
            refine value_ (w1 := (V1.alloc (.cells #[.int .i64 0, .slice none 0 0] 24))) (v := .pointer (some ⟨nb, 0, none⟩)) (by rfl) rfl (by rw [hnb]; go_simp) ?_
            have hal : Hid (Below V1.heap.size V1 (V1.alloc (.cells #[.int .i64 0, .slice none 0 0] 24))) := Lib.hid ((Below.refl _ _).alloc (Nat.le_refl _) _)
            have HN9 : Hid ((V1.alloc (.cells #[.int .i64 0, .slice none 0 0] 24)).heap[nb]? = some (.cells #[.int .i64 0, .slice none 0 0] 24 (0, 0))) := by rw [hnb]; exact Lib.hid (blk_new _ _)
            have hnb9 : Hid (wr.heap.size ≤ nb) := by rw [hnb]; exact Lib.hid HV1.out.size
            refine hK.out _ _ ⟨pw_cell_below hal.out hHeld.1, pw_cell_below hal.out hHeld.2.1, pw_cell_below hal.out hHeld.2.2.1, pw_cell_below hal.out hHeld.2.2.2.1, pw_cell_below hal.out hHeld.2.2.2.2⟩ (fun hHeld => ?_)
            clear hK K hnb
            generalize (V1.alloc (.cells #[.int .i64 0, .slice none 0 0] 24)) = V2 at hHeld hal HN9 ⊢
            have HV2 : Hid (Below wr.heap.size wr V2) := HV1.out.trans (hal.out.mono HV1.out.size)
            clear hal
            refine norm_ (a' := ?_) ?_ ?_
            rotate_left
            · show Act.put _ (some 11) _ = _
              simp only [Act.put, List.setIfInBounds_toArray, List.set_cons_zero, List.set_cons_succ]
              rfl
            refine one_ (i := 5) (N := some 80) #[true, true, true, true, true, true, false, false, false, true, false, false] rfl rfl (by kernel_rfl) (by decide) (fun K hK => ?_)
            refine goes_ Try.func15 (by kernel_rfl) rfl #[.agg #[.int .i64 x.f0, .slice A3 x.f1.length c3], .agg #[.int .i64 j.f0, .slice A6 j.f1.length c6, .slice B6 j.f2.length k6]] (by rfl) rfl rfl (by simp only [List.map_toArray, List.map_cons, List.map_nil]; rfl) ?_
            refine ((HP15.out V2 A3 c3 C3.out L3.out HV2.out)).mono ?_
            rintro e' V3 ⟨A8, c8, rfl, R8, hb⟩
            refine ⟨_, rfl, ?_⟩
            replace HN9 := Lib.hid (blk_below HN9.out hb.out)
            have HV3 : Hid (Below wr.heap.size wr V3) := HV2.out.trans (hb.out.mono HV2.out.size)
            replace R8 := Lib.hid (Kd.R_lower R8.out HV2.out.size)
            refine hK.out _ _ ⟨pw_cell_below hb.out hHeld.1, pw_cell_below hb.out hHeld.2.1, pw_cell_below hb.out hHeld.2.2.1, pw_cell_below hb.out hHeld.2.2.2.1, pw_cell_below hb.out hHeld.2.2.2.2⟩ (fun hHeld => ?_)
            clear hK K hb
            refine norm_ (a' := ?_) ?_ ?_
            rotate_left
            · show Act.put _ (some 80) _ = _
              simp only [Act.put, List.setIfInBounds_toArray, List.set_cons_zero, List.set_cons_succ]
              rfl
            refine pure_ (i := 6) (N := some 74) (v := ?_) (a' := ?_) #[true, true, true, true, true, true, true, false, false, true, false, false] rfl rfl (by kernel_rfl) (fun _ _ _ h => h) (Or.inl ⟨by rfl, ?_⟩) ?_ ?_
            rotate_left
            · intro w'
              go_simp
              with_reducible rfl
            rotate_left
            · simp only [Act.put, List.setIfInBounds_toArray, List.set_cons_zero, List.set_cons_succ]
              rfl
            refine pure_ (i := 7) (N := some 81) (v := ?_) (a' := ?_) #[true, true, true, true, true, true, true, true, false, true, false, false] rfl rfl (by kernel_rfl) (fun _ _ _ h => h) (Or.inl ⟨by rfl, ?_⟩) ?_ ?_
            rotate_left
            · intro w'
              go_simp
              with_reducible rfl
            rotate_left
            · simp only [Act.put, List.setIfInBounds_toArray, List.set_cons_zero, List.set_cons_succ]
              rfl
            refine pure_ (i := 8) (N := some 82) (v := ?_) (a' := ?_) #[true, true, true, true, true, true, true, true, true, true, false, false] rfl rfl (by kernel_rfl) (fun _ _ _ h => h) (Or.inl ⟨by rfl, ?_⟩) ?_ ?_
            rotate_left
            · intro w'
              go_simp
              with_reducible rfl
            rotate_left
            · simp only [Act.put, List.setIfInBounds_toArray, List.set_cons_zero, List.set_cons_succ]
              rfl
            refine last_ (i := 10) (N := none) #[true, true, true, true, true, true, true, true, true, true, true, false] rfl rfl (by kernel_rfl) (by decide) (fun K hK => ?_)
            have x0 : V3.cell? ⟨nb, 0, none⟩ = some (.int .i64 0) := blk_at HN9.out 0 rfl
            have z0 : V3.frozen? ⟨nb, 0, none⟩ = false := blk_frozen HN9.out 0
            have x1 : V3.cell? ⟨nb, 1, none⟩ = some (.slice none 0 0) := blk_at HN9.out 1 rfl
            have z1 : V3.frozen? ⟨nb, 1, none⟩ = false := blk_frozen HN9.out 1
            refine skip_ (w1 := ((V3.setCell ⟨nb, 0, none⟩ (.int .i64 t.f0)).setCell ⟨nb, 1, none⟩ (.slice A8 t.f1.length c8))) (by rfl) rfl (by go_simp) ?_
            refine hK.out _ _ ?_
            have R8' := Lib.hid (Kd.R_set (Kd.R_set R8.out HN9.out (by decide) 0 (.int .i64 t.f0)) (blk_put HN9.out 0 (.int .i64 t.f0) rfl) (by decide) 1 (.slice A8 t.f1.length c8))
            have HN9' := Lib.hid (blk_put (blk_put HN9.out 0 (.int .i64 t.f0) rfl) 1 (.slice A8 t.f1.length c8) rfl)
            have HB9 : Hid (Below wr.heap.size wr ((V3.setCell ⟨nb, 0, none⟩ (.int .i64 t.f0)).setCell ⟨nb, 1, none⟩ (.slice A8 t.f1.length c8))) := Lib.hid ((HV3.out.setCell (p := ⟨nb, 0, none⟩) hnb9.out _).setCell (p := ⟨nb, 1, none⟩) hnb9.out _)
            clear hK K hHeld x0 z0 x1 z1 R8 HN9 HV0 HV1 HV2 HV3
            generalize ((V3.setCell ⟨nb, 0, none⟩ (.int .i64 t.f0)).setCell ⟨nb, 1, none⟩ (.slice A8 t.f1.length c8)) = W9 at *
            refine pure_ (i := 11) (N := some 12) (v := ?_) (a' := ?_) #[true, true, true, true, true, true, true, true, true, true, true, true] rfl rfl (by kernel_rfl) (fun _ _ _ h => h) (Or.inl ⟨by rfl, ?_⟩) ?_ ?_
            rotate_left
            · intro w'
              go_simp
              with_reducible rfl
            rotate_left
            · simp only [Act.put, List.setIfInBounds_toArray, List.set_cons_zero, List.set_cons_succ]
              rfl
            refine done_ (by kernel_rfl) ?_
            have HBj : Hid (Below w2.heap.size w2 W9) := HBi.out.trans (HB9.out.mono HBi.out.size)
            have HBw : Hid (Below w.heap.size w W9) := HB2.out.trans (HBj.out.mono HB2.out.size)
            have RC := Lib.hid (Kd.R_reads' R8'.out)
            by_cases qm : m5 = 0
            rotate_left
            · have q9 : m5 = 110 := by
                rcases leads_apply (so_fit l 0) HCI.out.fit HCI.out.leads (chkS_ok (so_fit l m)).1 with q | q
                · rw [← M5.out]; exact q
                · exact absurd (M5.out.symm.trans q.1) qm
              subst q9
              clear qm
              go_wp2_with (fail)
              go_ret
              exact ⟨rfl, HBw.out⟩
            subst qm
            have HTE : Hid (t = so l m) := Lib.hid (by
              rcases leads_apply (so_fit l 0) HCI.out.fit HCI.out.leads (chkS_ok (so_fit l m)).1 with q | q
              · rw [M5.out] at q; simp at q
              · rw [← X5.out]; exact q.2)
            have n0' : W9.cell? ⟨nb, 0, none⟩ = some (.int .i64 t.f0) := blk_at HN9'.out 0 rfl
            have n1' : W9.cell? ⟨nb, 1, none⟩ = some (.slice A8 t.f1.length c8) := blk_at HN9'.out 1 rfl
            obtain ⟨adm, P2, q2, hAm, f0, f1, hlm2, hCm⟩ := at_T24 HC2.out (m : Int) (by omega) (by rw [← Hn.out]; omega)
            obtain rfl : ad0 = adm := by injection hAm
            clear hAm
            have hxm : l.getD m z24 = rd_T24 l (m : Int) := by unfold rd_T24; rw [Int.toNat_natCast]
            have hsom : so l m = soundS (rd_T24 l (m : Int)) := by unfold so; rw [hxm]
            generalize rd_T24 l (m : Int) = s2 at *
            rw [Int.toNat_natCast] at f0 f1
            replace f0 := pw_cell_below HBj.out f0
            replace f1 := pw_cell_below HBj.out f1
            have HSm : Hid (∀ W, Below w2.heap.size w2 W → Calls Try.prog 25 #[.agg #[.int .i64 s2.f0, .slice P2 s2.f1.length q2]] W fun e' w' => SR (so l m) w2 W e' w') := Lib.hid (fun W h => by rw [hsom]; exact sound25 s2 P2 q2 w2 W hCm hlm2 h)
            clear hxm hsom
            generalize hz : so l m = y at HSm HTE
            have Hy := Lib.hid hz
            clear hz
            have HP18 : Hid (∀ W A4 c4, Kd.C k63 w2 A4 y.f1.length y.f1 → Below W9.heap.size W9 W → Calls Try.prog 18 #[.agg #[.int .i64 t.f0, .slice A8 t.f1.length c8], .agg #[.int .i64 y.f0, .slice A4 y.f1.length c4]] W fun e' w' => SaysB true W e' w') := Lib.hid (fun W A4 c4 h4 h => by
              have := sameS18 t y A8 A4 c8 c4 W9 W RC.out.2.2 (Kd.C_below h4 HBj.out) h
              rw [eqB_true HTE.out] at this
              exact this)
            have i0 : (0 : Int) ≤ (m : Int) := by omega
            have i1 : (m : Int) < (n : Int) := by omega
            have i3 : (n : Int) - 1 = (m : Int) := by omega
            have i4 : IntKind.i64.wrap (m : Int) = (m : Int) := by rw [IntKind.wrap_i64] <;> omega
            go_upto_region 26 with (fail)
            refine start_ (n := 10) (S := (fun w' => w'.cell? ⟨nb, 0, none⟩ = some (.int .i64 t.f0) ∧ w'.cell? ⟨nb, 1, none⟩ = some (.slice A8 t.f1.length c8) ∧ w'.cell? (ad0.add (m * 2)) = some (.int .i64 s2.f0) ∧ w'.cell? ⟨(ad0.add (m * 2)).block, (ad0.add (m * 2)).off + 1, none⟩ = some (.slice P2 s2.f1.length q2))) (ds := [8]) #[false, false, false, false, false, false, false, false, false, false] (by kernel_rfl) rfl rfl ⟨n0', n1', f0, f1⟩ (fun hHeld => ?_)
            have HV0 : Hid (Below W9.heap.size W9 W9.drew) := (Below.refl _ _).drew
            generalize W9.drew = V0 at hHeld HV0  ⊢
            refine take_ (i := 0) (N := some 87) (v := ?_) (a' := ?_) #[true, false, false, false, false, false, false, false, false, false] rfl rfl (by kernel_rfl) (fun _ _ _ h => h) (Or.inl ⟨by rfl, ?_⟩) hHeld ?_ ?_
            rotate_left
            · rintro w' ⟨s0, s1, s2, s3⟩
              go_simp
              with_reducible rfl
            rotate_left
            · simp only [Act.put, List.setIfInBounds_toArray, List.set_cons_zero, List.set_cons_succ]
              rfl
            refine pure_ (i := 1) (N := some 88) (v := ?_) (a' := ?_) #[true, true, false, false, false, false, false, false, false, false] rfl rfl (by kernel_rfl) (fun _ _ _ h => h) (Or.inl ⟨by rfl, ?_⟩) ?_ ?_
            rotate_left
            · intro w'
              go_simp
              with_reducible rfl
            rotate_left
            · simp only [Act.put, List.setIfInBounds_toArray, List.set_cons_zero, List.set_cons_succ]
              rfl
            refine pure_ (i := 2) (N := some 89) (v := ?_) (a' := ?_) #[true, true, true, false, false, false, false, false, false, false] rfl rfl (by kernel_rfl) (fun _ _ _ h => h) (Or.inl ⟨by rfl, ?_⟩) ?_ ?_
            rotate_left
            · intro w'
              go_simp
              with_reducible rfl
            rotate_left
            · simp only [Act.put, List.setIfInBounds_toArray, List.set_cons_zero, List.set_cons_succ]
              rfl
            refine pure_ (i := 3) (N := some 90) (v := ?_) (a' := ?_) #[true, true, true, true, false, false, false, false, false, false] rfl rfl (by kernel_rfl) (fun _ _ _ h => h) (Or.inl ⟨by rfl, ?_⟩) ?_ ?_
            rotate_left
            · intro w'
              go_simp
              with_reducible rfl
            rotate_left
            · simp only [Act.put, List.setIfInBounds_toArray, List.set_cons_zero, List.set_cons_succ]
              rfl
            refine pure_ (i := 4) (N := some 91) (v := ?_) (a' := ?_) #[true, true, true, true, true, false, false, false, false, false] rfl rfl (by kernel_rfl) (fun _ _ _ h => h) (Or.inl ⟨by rfl, ?_⟩) ?_ ?_
            rotate_left
            · intro w'
              go_simp
              with_reducible rfl
            rotate_left
            · simp only [Act.put, List.setIfInBounds_toArray, List.set_cons_zero, List.set_cons_succ]
              rfl
            refine pure_ (i := 5) (N := some 92) (v := ?_) (a' := ?_) #[true, true, true, true, true, true, false, false, false, false] rfl rfl (by kernel_rfl) (fun _ _ _ h => h) (Or.inl ⟨by rfl, ?_⟩) ?_ ?_
            rotate_left
            · intro w'
              go_simp
              with_reducible rfl
            rotate_left
            · simp only [Act.put, List.setIfInBounds_toArray, List.set_cons_zero, List.set_cons_succ]
              rfl
            refine take_ (i := 6) (N := some 93) (v := ?_) (a' := ?_) #[true, true, true, true, true, true, true, false, false, false] rfl rfl (by kernel_rfl) (fun _ _ _ h => h) (Or.inl ⟨by rfl, ?_⟩) hHeld ?_ ?_
            rotate_left
            · rintro w' ⟨s0, s1, s2, s3⟩
              go_simp
              with_reducible rfl
            rotate_left
            · simp only [Act.put, List.setIfInBounds_toArray, List.set_cons_zero, List.set_cons_succ]
              rfl
            refine one_ (i := 7) (N := some 94) #[true, true, true, true, true, true, true, true, false, false] rfl rfl (by kernel_rfl) (by decide) (fun K hK => ?_)
            refine goes_ Try.func25 (by kernel_rfl) rfl #[.agg #[.int .i64 s2.f0, .slice P2 s2.f1.length q2]] (by rfl) rfl rfl (by simp only [List.map_toArray, List.map_cons, List.map_nil]; rfl) ?_
            refine ((HSm.out V0 (HBj.out.trans (HV0.out.mono HBj.out.size)))).mono ?_
            rintro e' V1 ⟨A4, c4, rfl, C4, hb, L4⟩
            refine ⟨_, rfl, ?_⟩
            have HV1 : Hid (Below W9.heap.size W9 V1) := HV0.out.trans (hb.out.mono HV0.out.size)
            refine hK.out _ _ ⟨pw_cell_below hb.out hHeld.1, pw_cell_below hb.out hHeld.2.1, pw_cell_below hb.out hHeld.2.2.1, pw_cell_below hb.out hHeld.2.2.2⟩ (fun hHeld => ?_)
            clear hK K hb
            refine norm_ (a' := ?_) ?_ ?_
            rotate_left
            · show Act.put _ (some 94) _ = _
              simp only [Act.put, List.setIfInBounds_toArray, List.set_cons_zero, List.set_cons_succ]
              rfl
            refine last_ (i := 8) (N := some 95) #[true, true, true, true, true, true, true, true, true, false] rfl rfl (by kernel_rfl) (by decide) (fun K hK => ?_)
            refine goes_ Try.func18 (by kernel_rfl) rfl #[.agg #[.int .i64 t.f0, .slice A8 t.f1.length c8], .agg #[.int .i64 y.f0, .slice A4 y.f1.length c4]] (by rfl) rfl rfl (by simp only [List.map_toArray, List.map_cons, List.map_nil]; rfl) ?_
            refine ((HP18.out V1 A4 c4 C4.out HV1.out)).mono ?_
            rintro e' V2 ⟨rfl, hb⟩
            refine ⟨_, rfl, ?_⟩
            have HV2 : Hid (Below W9.heap.size W9 V2) := HV1.out.trans (hb.out.mono HV1.out.size)
            refine hK.out _ _ ?_
            clear hK K hb hHeld
            refine norm_ (a' := ?_) ?_ ?_
            rotate_left
            · show Act.put _ (some 95) _ = _
              simp only [Act.put, List.setIfInBounds_toArray, List.set_cons_zero, List.set_cons_succ]
              rfl
            refine pure_ (i := 9) (N := some 96) (v := ?_) (a' := ?_) #[true, true, true, true, true, true, true, true, true, true] rfl rfl (by kernel_rfl) (fun _ _ _ h => h) (Or.inl ⟨by rfl, ?_⟩) ?_ ?_
            rotate_left
            · intro w'
              go_simp
              with_reducible rfl
            rotate_left
            · simp only [Act.put, List.setIfInBounds_toArray, List.set_cons_zero, List.set_cons_succ]
              rfl
            refine done_ (by kernel_rfl) ?_
            clear HN9'
            have HBf0 : Hid (Below w2.heap.size w2 V2) := HBj.out.trans (HV2.out.mono HBj.out.size)
            obtain ⟨w6, hw6⟩ : ∃ w6, w6 = V2 := ⟨_, rfl⟩
            rw [← hw6] at HBf0 ⊢
            clear hw6
            have HBf : Hid (Below w.heap.size w w6) := HB2.out.trans (HBf0.out.mono HB2.out.size)
            by_cases h3 : m < 3
            · have h4 : (m : Int) < 3 := by omega
              go_wp2_with (fail)
              go_ret
              exact ⟨rfl, HBf.out⟩
            have h4 : ¬ (m : Int) < 3 := by omega
            have h50 : 0 < m := by omega
            have h51 : 1 < m := by omega
            have h52 : 2 < m := by omega
            have h53 : (0 : Int) < (m : Int) := by omega
            have h54 : (1 : Int) < (m : Int) := by omega
            have h55 : (2 : Int) < (m : Int) := by omega
            obtain ⟨adx0, A10, c10, B10, k10, hA0, g00, g01, g02, hl0, hC0, hm0, hG0⟩ := at_T27 HCd.out (0 : Int) (by omega) (by omega)
            generalize rd_T27 (difs l m) (0 : Int) = d0 at *
            obtain ⟨adx1, A11, c11, B11, k11, hA1, g10, g11, g12, hl1, hC1, hm1, hG1⟩ := at_T27 HCd.out (1 : Int) (by omega) (by omega)
            generalize rd_T27 (difs l m) (1 : Int) = d1 at *
            obtain ⟨adx2, A12, c12, B12, k12, hA2, g20, g21, g22, hl2, hC2, hm2, hG2⟩ := at_T27 HCd.out (2 : Int) (by omega) (by omega)
            generalize rd_T27 (difs l m) (2 : Int) = d2 at *
            obtain rfl : ad = adx0 := by injection hA0
            obtain rfl : ad = adx1 := by injection hA1
            obtain rfl : ad = adx2 := by injection hA2
            clear hA0 hA1 hA2
            simp only [Int.toNat_zero, Nat.zero_mul, addr_add_zero] at g00 g01 g02
            rw [show (1 : Int).toNat * 3 = 3 from rfl, show ad.add 3 = ⟨ad.block, ad.off + 3, none⟩ from rfl] at g10 g11 g12
            dsimp only at g10 g11 g12
            rw [show (2 : Int).toNat * 3 = 6 from rfl, show ad.add 6 = ⟨ad.block, ad.off + 6, none⟩ from rfl] at g20 g21 g22
            dsimp only at g20 g21 g22
            replace g00 := pw_cell_below HBf0.out g00
            replace g01 := pw_cell_below HBf0.out g01
            replace g02 := pw_cell_below HBf0.out g02
            replace g10 := pw_cell_below HBf0.out g10
            replace g11 := pw_cell_below HBf0.out g11
            replace g12 := pw_cell_below HBf0.out g12
            replace g20 := pw_cell_below HBf0.out g20
            replace g21 := pw_cell_below HBf0.out g21
            replace g22 := pw_cell_below HBf0.out g22
            have HP28 : Hid (∀ W, Below w6.heap.size w6 W → Calls Try.prog 28 #[.agg #[.int .i64 d0.f0, .slice A10 d0.f1.length c10, .slice B10 d0.f2.length k10], .agg #[.int .i64 d1.f0, .slice A11 d1.f1.length c11, .slice B11 d1.f2.length k11], .agg #[.int .i64 d2.f0, .slice A12 d2.f1.length c12, .slice B12 d2.f2.length k12]] W fun e' w' => SaysB true W e' w') := Lib.hid (fun W h => by
              have h2 : Below w2.heap.size w2 W := HBf0.out.trans (h.mono HBf0.out.size)
              have := assoc28 d0 d1 d2 A10 B10 A11 B11 A12 B12 c10 k10 c11 k11 c12 k12 W (Kd.C_below hC0 h2) (Kd.C_below hG0 h2) (Kd.C_below hC1 h2) (Kd.C_below hG1 h2) (Kd.C_below hC2 h2) (Kd.C_below hG2 h2)
              rw [assocP_true] at this
              exact this)
            go_upto_region 30 with (fail)
            refine start_ (n := 11) (S := (fun w' => w'.cell? ad = some (.int .i64 d0.f0) ∧ w'.cell? ⟨ad.block, ad.off + 1, none⟩ = some (.slice A10 d0.f1.length c10) ∧ w'.cell? ⟨ad.block, ad.off + 2, none⟩ = some (.slice B10 d0.f2.length k10) ∧ w'.cell? ⟨ad.block, ad.off + 3, none⟩ = some (.int .i64 d1.f0) ∧ w'.cell? ⟨ad.block, ad.off + 3 + 1, none⟩ = some (.slice A11 d1.f1.length c11) ∧ w'.cell? ⟨ad.block, ad.off + 3 + 2, none⟩ = some (.slice B11 d1.f2.length k11) ∧ w'.cell? ⟨ad.block, ad.off + 6, none⟩ = some (.int .i64 d2.f0) ∧ w'.cell? ⟨ad.block, ad.off + 6 + 1, none⟩ = some (.slice A12 d2.f1.length c12) ∧ w'.cell? ⟨ad.block, ad.off + 6 + 2, none⟩ = some (.slice B12 d2.f2.length k12))) (ds := [9]) #[false, false, false, false, false, false, false, false, false, false, false] (by kernel_rfl) rfl rfl ⟨g00, g01, g02, g10, g11, g12, g20, g21, g22⟩ (fun hHeld => ?_)
            have HV0 : Hid (Below w6.heap.size w6 w6.drew) := (Below.refl _ _).drew
            generalize w6.drew = V0 at hHeld HV0  ⊢
            refine pure_ (i := 0) (N := some 100) (v := ?_) (a' := ?_) #[true, false, false, false, false, false, false, false, false, false, false] rfl rfl (by kernel_rfl) (fun _ _ _ h => h) (Or.inl ⟨by rfl, ?_⟩) ?_ ?_
            rotate_left
            · intro w'
              go_simp
              with_reducible rfl
            rotate_left
            · simp only [Act.put, List.setIfInBounds_toArray, List.set_cons_zero, List.set_cons_succ]
              rfl
            refine pure_ (i := 1) (N := some 101) (v := ?_) (a' := ?_) #[true, true, false, false, false, false, false, false, false, false, false] rfl rfl (by kernel_rfl) (fun _ _ _ h => h) (Or.inl ⟨by rfl, ?_⟩) ?_ ?_
            rotate_left
            · intro w'
              go_simp
              with_reducible rfl
            rotate_left
            · simp only [Act.put, List.setIfInBounds_toArray, List.set_cons_zero, List.set_cons_succ]
              rfl
            refine take_ (i := 2) (N := some 102) (v := ?_) (a' := ?_) #[true, true, true, false, false, false, false, false, false, false, false] rfl rfl (by kernel_rfl) (fun _ _ _ h => h) (Or.inl ⟨by rfl, ?_⟩) hHeld ?_ ?_
            rotate_left
            · rintro w' ⟨s0, s1, s2, s3, s4, s5, s6, s7, s8⟩
              go_simp
              with_reducible rfl
            rotate_left
            · simp only [Act.put, List.setIfInBounds_toArray, List.set_cons_zero, List.set_cons_succ]
              rfl
            refine pure_ (i := 3) (N := some 103) (v := ?_) (a' := ?_) #[true, true, true, true, false, false, false, false, false, false, false] rfl rfl (by kernel_rfl) (fun _ _ _ h => h) (Or.inl ⟨by rfl, ?_⟩) ?_ ?_
            rotate_left
            · intro w'
              go_simp
              with_reducible rfl
            rotate_left
            · simp only [Act.put, List.setIfInBounds_toArray, List.set_cons_zero, List.set_cons_succ]
              rfl
            refine pure_ (i := 4) (N := some 104) (v := ?_) (a' := ?_) #[true, true, true, true, true, false, false, false, false, false, false] rfl rfl (by kernel_rfl) (fun _ _ _ h => h) (Or.inl ⟨by rfl, ?_⟩) ?_ ?_
            rotate_left
            · intro w'
              go_simp
              with_reducible rfl
            rotate_left
            · simp only [Act.put, List.setIfInBounds_toArray, List.set_cons_zero, List.set_cons_succ]
              rfl
            refine take_ (i := 5) (N := some 105) (v := ?_) (a' := ?_) #[true, true, true, true, true, true, false, false, false, false, false] rfl rfl (by kernel_rfl) (fun _ _ _ h => h) (Or.inl ⟨by rfl, ?_⟩) hHeld ?_ ?_
            rotate_left
            · rintro w' ⟨s0, s1, s2, s3, s4, s5, s6, s7, s8⟩
              go_simp
              with_reducible rfl
            rotate_left
            · simp only [Act.put, List.setIfInBounds_toArray, List.set_cons_zero, List.set_cons_succ]
              rfl
            refine pure_ (i := 6) (N := some 106) (v := ?_) (a' := ?_) #[true, true, true, true, true, true, true, false, false, false, false] rfl rfl (by kernel_rfl) (fun _ _ _ h => h) (Or.inl ⟨by rfl, ?_⟩) ?_ ?_
            rotate_left
            · intro w'
              go_simp
              with_reducible rfl
            rotate_left
            · simp only [Act.put, List.setIfInBounds_toArray, List.set_cons_zero, List.set_cons_succ]
              rfl
            refine pure_ (i := 7) (N := some 107) (v := ?_) (a' := ?_) #[true, true, true, true, true, true, true, true, false, false, false] rfl rfl (by kernel_rfl) (fun _ _ _ h => h) (Or.inl ⟨by rfl, ?_⟩) ?_ ?_
            rotate_left
            · intro w'
              go_simp
              with_reducible rfl
            rotate_left
            · simp only [Act.put, List.setIfInBounds_toArray, List.set_cons_zero, List.set_cons_succ]
              rfl
            refine take_ (i := 8) (N := some 108) (v := ?_) (a' := ?_) #[true, true, true, true, true, true, true, true, true, false, false] rfl rfl (by kernel_rfl) (fun _ _ _ h => h) (Or.inl ⟨by rfl, ?_⟩) hHeld ?_ ?_
            rotate_left
            · rintro w' ⟨s0, s1, s2, s3, s4, s5, s6, s7, s8⟩
              go_simp
              with_reducible rfl
            rotate_left
            · simp only [Act.put, List.setIfInBounds_toArray, List.set_cons_zero, List.set_cons_succ]
              rfl
            refine last_ (i := 9) (N := some 109) #[true, true, true, true, true, true, true, true, true, true, false] rfl rfl (by kernel_rfl) (by decide) (fun K hK => ?_)
            refine goes_ Try.func28 (by kernel_rfl) rfl #[.agg #[.int .i64 d0.f0, .slice A10 d0.f1.length c10, .slice B10 d0.f2.length k10], .agg #[.int .i64 d1.f0, .slice A11 d1.f1.length c11, .slice B11 d1.f2.length k11], .agg #[.int .i64 d2.f0, .slice A12 d2.f1.length c12, .slice B12 d2.f2.length k12]] (by rfl) rfl rfl (by simp only [List.map_toArray, List.map_cons, List.map_nil]; rfl) ?_
            refine ((HP28.out V0 HV0.out)).mono ?_
            rintro e' V1 ⟨rfl, hb⟩
            refine ⟨_, rfl, ?_⟩
            have HV1 : Hid (Below w6.heap.size w6 V1) := HV0.out.trans (hb.out.mono HV0.out.size)
            refine hK.out _ _ ?_
            clear hK K hb hHeld
            refine norm_ (a' := ?_) ?_ ?_
            rotate_left
            · show Act.put _ (some 109) _ = _
              simp only [Act.put, List.setIfInBounds_toArray, List.set_cons_zero, List.set_cons_succ]
              rfl
            refine pure_ (i := 10) (N := some 2) (v := ?_) (a' := ?_) #[true, true, true, true, true, true, true, true, true, true, true] rfl rfl (by kernel_rfl) (fun _ _ _ h => h) (Or.inl ⟨by rfl, ?_⟩) ?_ ?_
            rotate_left
            · intro w'
              go_simp
              with_reducible rfl
            rotate_left
            · simp only [Act.put, List.setIfInBounds_toArray, List.set_cons_zero, List.set_cons_succ]
              rfl
            refine done_ (by kernel_rfl) ?_
            go_wp2_with (fail)
            go_ret
            exact ⟨rfl, HBf.out.trans (HV1.out.mono HBf.out.size)⟩
        · obtain ⟨nb, hnb⟩ : ∃ nb, nb = V0.heap.size := ⟨_, rfl⟩
          refine value_ (w1 := (V0.alloc (.cells #[.int .i64 0, .slice none 0 0] 24))) (v := .pointer (some ⟨nb, 0, none⟩)) (by rfl) rfl (by rw [hnb]; go_simp) ?_
          have hal : Hid (Below V0.heap.size V0 (V0.alloc (.cells #[.int .i64 0, .slice none 0 0] 24))) := Lib.hid ((Below.refl _ _).alloc (Nat.le_refl _) _)
          have HN9 : Hid ((V0.alloc (.cells #[.int .i64 0, .slice none 0 0] 24)).heap[nb]? = some (.cells #[.int .i64 0, .slice none 0 0] 24 (0, 0))) := by rw [hnb]; exact Lib.hid (blk_new _ _)
          have hnb9 : Hid (wr.heap.size ≤ nb) := by rw [hnb]; exact Lib.hid HV0.out.size
          refine hK.out _ _ ⟨pw_cell_below hal.out hHeld.1, pw_cell_below hal.out hHeld.2.1, pw_cell_below hal.out hHeld.2.2.1, pw_cell_below hal.out hHeld.2.2.2.1, pw_cell_below hal.out hHeld.2.2.2.2⟩ (fun hHeld => ?_)
          clear hK K hnb
          generalize (V0.alloc (.cells #[.int .i64 0, .slice none 0 0] 24)) = V1 at hHeld hal HN9 ⊢
          have HV1 : Hid (Below wr.heap.size wr V1) := HV0.out.trans (hal.out.mono HV0.out.size)
          clear hal
          refine norm_ (a' := ?_) ?_ ?_
          rotate_left
          · show Act.put _ (some 11) _ = _
            simp only [Act.put, List.setIfInBounds_toArray, List.set_cons_zero, List.set_cons_succ]
            rfl
          refine one_ (i := 3) (N := some 78) #[true, true, true, true, true, false, false, false, false, true, false, false] rfl rfl (by kernel_rfl) (by decide) (fun K hK => ?_)
          refine goes_ Try.func25 (by kernel_rfl) rfl #[.agg #[.int .i64 s1.f0, .slice P1 s1.f1.length q1]] (by rfl) rfl rfl (by simp only [List.map_toArray, List.map_cons, List.map_nil]; rfl) ?_
          refine ((HS1.out V1 (HBi.out.trans (HV1.out.mono HBi.out.size)))).mono ?_
          rintro e' V2 ⟨A3, c3, rfl, C3, hb, L3⟩
          refine ⟨_, rfl, ?_⟩
          replace HN9 := Lib.hid (blk_below HN9.out hb.out)
          have HV2 : Hid (Below wr.heap.size wr V2) := HV1.out.trans (hb.out.mono HV1.out.size)
          refine hK.out _ _ ⟨pw_cell_below hb.out hHeld.1, pw_cell_below hb.out hHeld.2.1, pw_cell_below hb.out hHeld.2.2.1, pw_cell_below hb.out hHeld.2.2.2.1, pw_cell_below hb.out hHeld.2.2.2.2⟩ (fun hHeld => ?_)
          clear hK K hb
          refine norm_ (a' := ?_) ?_ ?_
          rotate_left
          · show Act.put _ (some 78) _ = _
            simp only [Act.put, List.setIfInBounds_toArray, List.set_cons_zero, List.set_cons_succ]
            rfl
          refine one_ (i := 5) (N := some 80) #[true, true, true, true, true, true, false, false, false, true, false, false] rfl rfl (by kernel_rfl) (by decide) (fun K hK => ?_)
          refine goes_ Try.func15 (by kernel_rfl) rfl #[.agg #[.int .i64 x.f0, .slice A3 x.f1.length c3], .agg #[.int .i64 j.f0, .slice A6 j.f1.length c6, .slice B6 j.f2.length k6]] (by rfl) rfl rfl (by simp only [List.map_toArray, List.map_cons, List.map_nil]; rfl) ?_
          refine ((HP15.out V2 A3 c3 C3.out L3.out HV2.out)).mono ?_
          rintro e' V3 ⟨A8, c8, rfl, R8, hb⟩
          refine ⟨_, rfl, ?_⟩
          replace HN9 := Lib.hid (blk_below HN9.out hb.out)
          have HV3 : Hid (Below wr.heap.size wr V3) := HV2.out.trans (hb.out.mono HV2.out.size)
          replace R8 := Lib.hid (Kd.R_lower R8.out HV2.out.size)
          refine hK.out _ _ ⟨pw_cell_below hb.out hHeld.1, pw_cell_below hb.out hHeld.2.1, pw_cell_below hb.out hHeld.2.2.1, pw_cell_below hb.out hHeld.2.2.2.1, pw_cell_below hb.out hHeld.2.2.2.2⟩ (fun hHeld => ?_)
          clear hK K hb
          refine norm_ (a' := ?_) ?_ ?_
          rotate_left
          · show Act.put _ (some 80) _ = _
            simp only [Act.put, List.setIfInBounds_toArray, List.set_cons_zero, List.set_cons_succ]
            rfl
          refine pure_ (i := 6) (N := some 74) (v := ?_) (a' := ?_) #[true, true, true, true, true, true, true, false, false, true, false, false] rfl rfl (by kernel_rfl) (fun _ _ _ h => h) (Or.inl ⟨by rfl, ?_⟩) ?_ ?_
          rotate_left
          · intro w'
            go_simp
            with_reducible rfl
          rotate_left
          · simp only [Act.put, List.setIfInBounds_toArray, List.set_cons_zero, List.set_cons_succ]
            rfl
          refine pure_ (i := 7) (N := some 81) (v := ?_) (a' := ?_) #[true, true, true, true, true, true, true, true, false, true, false, false] rfl rfl (by kernel_rfl) (fun _ _ _ h => h) (Or.inl ⟨by rfl, ?_⟩) ?_ ?_
          rotate_left
          · intro w'
            go_simp
            with_reducible rfl
          rotate_left
          · simp only [Act.put, List.setIfInBounds_toArray, List.set_cons_zero, List.set_cons_succ]
            rfl
          refine pure_ (i := 8) (N := some 82) (v := ?_) (a' := ?_) #[true, true, true, true, true, true, true, true, true, true, false, false] rfl rfl (by kernel_rfl) (fun _ _ _ h => h) (Or.inl ⟨by rfl, ?_⟩) ?_ ?_
          rotate_left
          · intro w'
            go_simp
            with_reducible rfl
          rotate_left
          · simp only [Act.put, List.setIfInBounds_toArray, List.set_cons_zero, List.set_cons_succ]
            rfl
          refine last_ (i := 10) (N := none) #[true, true, true, true, true, true, true, true, true, true, true, false] rfl rfl (by kernel_rfl) (by decide) (fun K hK => ?_)
          have x0 : V3.cell? ⟨nb, 0, none⟩ = some (.int .i64 0) := blk_at HN9.out 0 rfl
          have z0 : V3.frozen? ⟨nb, 0, none⟩ = false := blk_frozen HN9.out 0
          have x1 : V3.cell? ⟨nb, 1, none⟩ = some (.slice none 0 0) := blk_at HN9.out 1 rfl
          have z1 : V3.frozen? ⟨nb, 1, none⟩ = false := blk_frozen HN9.out 1
          refine skip_ (w1 := ((V3.setCell ⟨nb, 0, none⟩ (.int .i64 t.f0)).setCell ⟨nb, 1, none⟩ (.slice A8 t.f1.length c8))) (by rfl) rfl (by go_simp) ?_
          refine hK.out _ _ ?_
          have R8' := Lib.hid (Kd.R_set (Kd.R_set R8.out HN9.out (by decide) 0 (.int .i64 t.f0)) (blk_put HN9.out 0 (.int .i64 t.f0) rfl) (by decide) 1 (.slice A8 t.f1.length c8))
          have HN9' := Lib.hid (blk_put (blk_put HN9.out 0 (.int .i64 t.f0) rfl) 1 (.slice A8 t.f1.length c8) rfl)
          have HB9 : Hid (Below wr.heap.size wr ((V3.setCell ⟨nb, 0, none⟩ (.int .i64 t.f0)).setCell ⟨nb, 1, none⟩ (.slice A8 t.f1.length c8))) := Lib.hid ((HV3.out.setCell (p := ⟨nb, 0, none⟩) hnb9.out _).setCell (p := ⟨nb, 1, none⟩) hnb9.out _)
          clear hK K hHeld x0 z0 x1 z1 R8 HN9 HV0 HV1 HV2 HV3
          generalize ((V3.setCell ⟨nb, 0, none⟩ (.int .i64 t.f0)).setCell ⟨nb, 1, none⟩ (.slice A8 t.f1.length c8)) = W9 at *
          refine pure_ (i := 11) (N := some 12) (v := ?_) (a' := ?_) #[true, true, true, true, true, true, true, true, true, true, true, true] rfl rfl (by kernel_rfl) (fun _ _ _ h => h) (Or.inl ⟨by rfl, ?_⟩) ?_ ?_
          rotate_left
          · intro w'
            go_simp
            with_reducible rfl
          rotate_left
          · simp only [Act.put, List.setIfInBounds_toArray, List.set_cons_zero, List.set_cons_succ]
            rfl
          refine done_ (by kernel_rfl) ?_
          have HBj : Hid (Below w2.heap.size w2 W9) := HBi.out.trans (HB9.out.mono HBi.out.size)
          have HBw : Hid (Below w.heap.size w W9) := HB2.out.trans (HBj.out.mono HB2.out.size)
          have RC := Lib.hid (Kd.R_reads' R8'.out)
          by_cases qm : m5 = 0
          rotate_left
          · have q9 : m5 = 110 := by
              rcases leads_apply (so_fit l 0) HCI.out.fit HCI.out.leads (chkS_ok (so_fit l m)).1 with q | q
              · rw [← M5.out]; exact q
              · exact absurd (M5.out.symm.trans q.1) qm
            subst q9
            clear qm
            go_wp2_with (fail)
            go_ret
            exact ⟨rfl, HBw.out⟩
          subst qm
          have HTE : Hid (t = so l m) := Lib.hid (by
            rcases leads_apply (so_fit l 0) HCI.out.fit HCI.out.leads (chkS_ok (so_fit l m)).1 with q | q
            · rw [M5.out] at q; simp at q
            · rw [← X5.out]; exact q.2)
          have n0' : W9.cell? ⟨nb, 0, none⟩ = some (.int .i64 t.f0) := blk_at HN9'.out 0 rfl
          have n1' : W9.cell? ⟨nb, 1, none⟩ = some (.slice A8 t.f1.length c8) := blk_at HN9'.out 1 rfl
          obtain ⟨adm, P2, q2, hAm, f0, f1, hlm2, hCm⟩ := at_T24 HC2.out (m : Int) (by omega) (by rw [← Hn.out]; omega)
          obtain rfl : ad0 = adm := by injection hAm
          clear hAm
          have hxm : l.getD m z24 = rd_T24 l (m : Int) := by unfold rd_T24; rw [Int.toNat_natCast]
          have hsom : so l m = soundS (rd_T24 l (m : Int)) := by unfold so; rw [hxm]
          generalize rd_T24 l (m : Int) = s2 at *
          rw [Int.toNat_natCast] at f0 f1
          replace f0 := pw_cell_below HBj.out f0
          replace f1 := pw_cell_below HBj.out f1
          have HSm : Hid (∀ W, Below w2.heap.size w2 W → Calls Try.prog 25 #[.agg #[.int .i64 s2.f0, .slice P2 s2.f1.length q2]] W fun e' w' => SR (so l m) w2 W e' w') := Lib.hid (fun W h => by rw [hsom]; exact sound25 s2 P2 q2 w2 W hCm hlm2 h)
          clear hxm hsom
          generalize hz : so l m = y at HSm HTE
          have Hy := Lib.hid hz
          clear hz
          have HP18 : Hid (∀ W A4 c4, Kd.C k63 w2 A4 y.f1.length y.f1 → Below W9.heap.size W9 W → Calls Try.prog 18 #[.agg #[.int .i64 t.f0, .slice A8 t.f1.length c8], .agg #[.int .i64 y.f0, .slice A4 y.f1.length c4]] W fun e' w' => SaysB true W e' w') := Lib.hid (fun W A4 c4 h4 h => by
            have := sameS18 t y A8 A4 c8 c4 W9 W RC.out.2.2 (Kd.C_below h4 HBj.out) h
            rw [eqB_true HTE.out] at this
            exact this)
          have i0 : (0 : Int) ≤ (m : Int) := by omega
          have i1 : (m : Int) < (n : Int) := by omega
          have i3 : (n : Int) - 1 = (m : Int) := by omega
          have i4 : IntKind.i64.wrap (m : Int) = (m : Int) := by rw [IntKind.wrap_i64] <;> omega
          go_upto_region 26 with (fail)
          refine start_ (n := 10) (S := (fun w' => w'.cell? ⟨nb, 0, none⟩ = some (.int .i64 t.f0) ∧ w'.cell? ⟨nb, 1, none⟩ = some (.slice A8 t.f1.length c8) ∧ w'.cell? (ad0.add (m * 2)) = some (.int .i64 s2.f0) ∧ w'.cell? ⟨(ad0.add (m * 2)).block, (ad0.add (m * 2)).off + 1, none⟩ = some (.slice P2 s2.f1.length q2))) (ds := [8]) #[false, false, false, false, false, false, false, false, false, false] (by kernel_rfl) rfl rfl ⟨n0', n1', f0, f1⟩ (fun hHeld => ?_)
          have HV0 : Hid (Below W9.heap.size W9 W9.drew) := (Below.refl _ _).drew
          generalize W9.drew = V0 at hHeld HV0  ⊢
          refine take_ (i := 0) (N := some 87) (v := ?_) (a' := ?_) #[true, false, false, false, false, false, false, false, false, false] rfl rfl (by kernel_rfl) (fun _ _ _ h => h) (Or.inl ⟨by rfl, ?_⟩) hHeld ?_ ?_
          rotate_left
          · rintro w' ⟨s0, s1, s2, s3⟩
            go_simp
            with_reducible rfl
          rotate_left
          · simp only [Act.put, List.setIfInBounds_toArray, List.set_cons_zero, List.set_cons_succ]
            rfl
          refine pure_ (i := 1) (N := some 88) (v := ?_) (a' := ?_) #[true, true, false, false, false, false, false, false, false, false] rfl rfl (by kernel_rfl) (fun _ _ _ h => h) (Or.inl ⟨by rfl, ?_⟩) ?_ ?_
          rotate_left
          · intro w'
            go_simp
            with_reducible rfl
          rotate_left
          · simp only [Act.put, List.setIfInBounds_toArray, List.set_cons_zero, List.set_cons_succ]
            rfl
          refine pure_ (i := 2) (N := some 89) (v := ?_) (a' := ?_) #[true, true, true, false, false, false, false, false, false, false] rfl rfl (by kernel_rfl) (fun _ _ _ h => h) (Or.inl ⟨by rfl, ?_⟩) ?_ ?_
          rotate_left
          · intro w'
            go_simp
            with_reducible rfl
          rotate_left
          · simp only [Act.put, List.setIfInBounds_toArray, List.set_cons_zero, List.set_cons_succ]
            rfl
          refine pure_ (i := 3) (N := some 90) (v := ?_) (a' := ?_) #[true, true, true, true, false, false, false, false, false, false] rfl rfl (by kernel_rfl) (fun _ _ _ h => h) (Or.inl ⟨by rfl, ?_⟩) ?_ ?_
          rotate_left
          · intro w'
            go_simp
            with_reducible rfl
          rotate_left
          · simp only [Act.put, List.setIfInBounds_toArray, List.set_cons_zero, List.set_cons_succ]
            rfl
          refine pure_ (i := 4) (N := some 91) (v := ?_) (a' := ?_) #[true, true, true, true, true, false, false, false, false, false] rfl rfl (by kernel_rfl) (fun _ _ _ h => h) (Or.inl ⟨by rfl, ?_⟩) ?_ ?_
          rotate_left
          · intro w'
            go_simp
            with_reducible rfl
          rotate_left
          · simp only [Act.put, List.setIfInBounds_toArray, List.set_cons_zero, List.set_cons_succ]
            rfl
          refine pure_ (i := 5) (N := some 92) (v := ?_) (a' := ?_) #[true, true, true, true, true, true, false, false, false, false] rfl rfl (by kernel_rfl) (fun _ _ _ h => h) (Or.inl ⟨by rfl, ?_⟩) ?_ ?_
          rotate_left
          · intro w'
            go_simp
            with_reducible rfl
          rotate_left
          · simp only [Act.put, List.setIfInBounds_toArray, List.set_cons_zero, List.set_cons_succ]
            rfl
          refine take_ (i := 6) (N := some 93) (v := ?_) (a' := ?_) #[true, true, true, true, true, true, true, false, false, false] rfl rfl (by kernel_rfl) (fun _ _ _ h => h) (Or.inl ⟨by rfl, ?_⟩) hHeld ?_ ?_
          rotate_left
          · rintro w' ⟨s0, s1, s2, s3⟩
            go_simp
            with_reducible rfl
          rotate_left
          · simp only [Act.put, List.setIfInBounds_toArray, List.set_cons_zero, List.set_cons_succ]
            rfl
          refine one_ (i := 7) (N := some 94) #[true, true, true, true, true, true, true, true, false, false] rfl rfl (by kernel_rfl) (by decide) (fun K hK => ?_)
          refine goes_ Try.func25 (by kernel_rfl) rfl #[.agg #[.int .i64 s2.f0, .slice P2 s2.f1.length q2]] (by rfl) rfl rfl (by simp only [List.map_toArray, List.map_cons, List.map_nil]; rfl) ?_
          refine ((HSm.out V0 (HBj.out.trans (HV0.out.mono HBj.out.size)))).mono ?_
          rintro e' V1 ⟨A4, c4, rfl, C4, hb, L4⟩
          refine ⟨_, rfl, ?_⟩
          have HV1 : Hid (Below W9.heap.size W9 V1) := HV0.out.trans (hb.out.mono HV0.out.size)
          refine hK.out _ _ ⟨pw_cell_below hb.out hHeld.1, pw_cell_below hb.out hHeld.2.1, pw_cell_below hb.out hHeld.2.2.1, pw_cell_below hb.out hHeld.2.2.2⟩ (fun hHeld => ?_)
          clear hK K hb
          refine norm_ (a' := ?_) ?_ ?_
          rotate_left
          · show Act.put _ (some 94) _ = _
            simp only [Act.put, List.setIfInBounds_toArray, List.set_cons_zero, List.set_cons_succ]
            rfl
          refine last_ (i := 8) (N := some 95) #[true, true, true, true, true, true, true, true, true, false] rfl rfl (by kernel_rfl) (by decide) (fun K hK => ?_)
          refine goes_ Try.func18 (by kernel_rfl) rfl #[.agg #[.int .i64 t.f0, .slice A8 t.f1.length c8], .agg #[.int .i64 y.f0, .slice A4 y.f1.length c4]] (by rfl) rfl rfl (by simp only [List.map_toArray, List.map_cons, List.map_nil]; rfl) ?_
          refine ((HP18.out V1 A4 c4 C4.out HV1.out)).mono ?_
          rintro e' V2 ⟨rfl, hb⟩
          refine ⟨_, rfl, ?_⟩
          have HV2 : Hid (Below W9.heap.size W9 V2) := HV1.out.trans (hb.out.mono HV1.out.size)
          refine hK.out _ _ ?_
          clear hK K hb hHeld
          refine norm_ (a' := ?_) ?_ ?_
          rotate_left
          · show Act.put _ (some 95) _ = _
            simp only [Act.put, List.setIfInBounds_toArray, List.set_cons_zero, List.set_cons_succ]
            rfl
          refine pure_ (i := 9) (N := some 96) (v := ?_) (a' := ?_) #[true, true, true, true, true, true, true, true, true, true] rfl rfl (by kernel_rfl) (fun _ _ _ h => h) (Or.inl ⟨by rfl, ?_⟩) ?_ ?_
          rotate_left
          · intro w'
            go_simp
            with_reducible rfl
          rotate_left
          · simp only [Act.put, List.setIfInBounds_toArray, List.set_cons_zero, List.set_cons_succ]
            rfl
          refine done_ (by kernel_rfl) ?_
          clear HN9'
          have HBf0 : Hid (Below w2.heap.size w2 V2) := HBj.out.trans (HV2.out.mono HBj.out.size)
          obtain ⟨w6, hw6⟩ : ∃ w6, w6 = V2 := ⟨_, rfl⟩
          rw [← hw6] at HBf0 ⊢
          clear hw6
          have HBf : Hid (Below w.heap.size w w6) := HB2.out.trans (HBf0.out.mono HB2.out.size)
          by_cases h3 : m < 3
          · have h4 : (m : Int) < 3 := by omega
            go_wp2_with (fail)
            go_ret
            exact ⟨rfl, HBf.out⟩
          have h4 : ¬ (m : Int) < 3 := by omega
          have h50 : 0 < m := by omega
          have h51 : 1 < m := by omega
          have h52 : 2 < m := by omega
          have h53 : (0 : Int) < (m : Int) := by omega
          have h54 : (1 : Int) < (m : Int) := by omega
          have h55 : (2 : Int) < (m : Int) := by omega
          obtain ⟨adx0, A10, c10, B10, k10, hA0, g00, g01, g02, hl0, hC0, hm0, hG0⟩ := at_T27 HCd.out (0 : Int) (by omega) (by omega)
          generalize rd_T27 (difs l m) (0 : Int) = d0 at *
          obtain ⟨adx1, A11, c11, B11, k11, hA1, g10, g11, g12, hl1, hC1, hm1, hG1⟩ := at_T27 HCd.out (1 : Int) (by omega) (by omega)
          generalize rd_T27 (difs l m) (1 : Int) = d1 at *
          obtain ⟨adx2, A12, c12, B12, k12, hA2, g20, g21, g22, hl2, hC2, hm2, hG2⟩ := at_T27 HCd.out (2 : Int) (by omega) (by omega)
          generalize rd_T27 (difs l m) (2 : Int) = d2 at *
          obtain rfl : ad = adx0 := by injection hA0
          obtain rfl : ad = adx1 := by injection hA1
          obtain rfl : ad = adx2 := by injection hA2
          clear hA0 hA1 hA2
          simp only [Int.toNat_zero, Nat.zero_mul, addr_add_zero] at g00 g01 g02
          rw [show (1 : Int).toNat * 3 = 3 from rfl, show ad.add 3 = ⟨ad.block, ad.off + 3, none⟩ from rfl] at g10 g11 g12
          dsimp only at g10 g11 g12
          rw [show (2 : Int).toNat * 3 = 6 from rfl, show ad.add 6 = ⟨ad.block, ad.off + 6, none⟩ from rfl] at g20 g21 g22
          dsimp only at g20 g21 g22
          replace g00 := pw_cell_below HBf0.out g00
          replace g01 := pw_cell_below HBf0.out g01
          replace g02 := pw_cell_below HBf0.out g02
          replace g10 := pw_cell_below HBf0.out g10
          replace g11 := pw_cell_below HBf0.out g11
          replace g12 := pw_cell_below HBf0.out g12
          replace g20 := pw_cell_below HBf0.out g20
          replace g21 := pw_cell_below HBf0.out g21
          replace g22 := pw_cell_below HBf0.out g22
          have HP28 : Hid (∀ W, Below w6.heap.size w6 W → Calls Try.prog 28 #[.agg #[.int .i64 d0.f0, .slice A10 d0.f1.length c10, .slice B10 d0.f2.length k10], .agg #[.int .i64 d1.f0, .slice A11 d1.f1.length c11, .slice B11 d1.f2.length k11], .agg #[.int .i64 d2.f0, .slice A12 d2.f1.length c12, .slice B12 d2.f2.length k12]] W fun e' w' => SaysB true W e' w') := Lib.hid (fun W h => by
            have h2 : Below w2.heap.size w2 W := HBf0.out.trans (h.mono HBf0.out.size)
            have := assoc28 d0 d1 d2 A10 B10 A11 B11 A12 B12 c10 k10 c11 k11 c12 k12 W (Kd.C_below hC0 h2) (Kd.C_below hG0 h2) (Kd.C_below hC1 h2) (Kd.C_below hG1 h2) (Kd.C_below hC2 h2) (Kd.C_below hG2 h2)
            rw [assocP_true] at this
            exact this)
          go_upto_region 30 with (fail)
          refine start_ (n := 11) (S := (fun w' => w'.cell? ad = some (.int .i64 d0.f0) ∧ w'.cell? ⟨ad.block, ad.off + 1, none⟩ = some (.slice A10 d0.f1.length c10) ∧ w'.cell? ⟨ad.block, ad.off + 2, none⟩ = some (.slice B10 d0.f2.length k10) ∧ w'.cell? ⟨ad.block, ad.off + 3, none⟩ = some (.int .i64 d1.f0) ∧ w'.cell? ⟨ad.block, ad.off + 3 + 1, none⟩ = some (.slice A11 d1.f1.length c11) ∧ w'.cell? ⟨ad.block, ad.off + 3 + 2, none⟩ = some (.slice B11 d1.f2.length k11) ∧ w'.cell? ⟨ad.block, ad.off + 6, none⟩ = some (.int .i64 d2.f0) ∧ w'.cell? ⟨ad.block, ad.off + 6 + 1, none⟩ = some (.slice A12 d2.f1.length c12) ∧ w'.cell? ⟨ad.block, ad.off + 6 + 2, none⟩ = some (.slice B12 d2.f2.length k12))) (ds := [9]) #[false, false, false, false, false, false, false, false, false, false, false] (by kernel_rfl) rfl rfl ⟨g00, g01, g02, g10, g11, g12, g20, g21, g22⟩ (fun hHeld => ?_)
          have HV0 : Hid (Below w6.heap.size w6 w6.drew) := (Below.refl _ _).drew
          generalize w6.drew = V0 at hHeld HV0  ⊢
          refine pure_ (i := 0) (N := some 100) (v := ?_) (a' := ?_) #[true, false, false, false, false, false, false, false, false, false, false] rfl rfl (by kernel_rfl) (fun _ _ _ h => h) (Or.inl ⟨by rfl, ?_⟩) ?_ ?_
          rotate_left
          · intro w'
            go_simp
            with_reducible rfl
          rotate_left
          · simp only [Act.put, List.setIfInBounds_toArray, List.set_cons_zero, List.set_cons_succ]
            rfl
          refine pure_ (i := 1) (N := some 101) (v := ?_) (a' := ?_) #[true, true, false, false, false, false, false, false, false, false, false] rfl rfl (by kernel_rfl) (fun _ _ _ h => h) (Or.inl ⟨by rfl, ?_⟩) ?_ ?_
          rotate_left
          · intro w'
            go_simp
            with_reducible rfl
          rotate_left
          · simp only [Act.put, List.setIfInBounds_toArray, List.set_cons_zero, List.set_cons_succ]
            rfl
          refine take_ (i := 2) (N := some 102) (v := ?_) (a' := ?_) #[true, true, true, false, false, false, false, false, false, false, false] rfl rfl (by kernel_rfl) (fun _ _ _ h => h) (Or.inl ⟨by rfl, ?_⟩) hHeld ?_ ?_
          rotate_left
          · rintro w' ⟨s0, s1, s2, s3, s4, s5, s6, s7, s8⟩
            go_simp
            with_reducible rfl
          rotate_left
          · simp only [Act.put, List.setIfInBounds_toArray, List.set_cons_zero, List.set_cons_succ]
            rfl
          refine pure_ (i := 3) (N := some 103) (v := ?_) (a' := ?_) #[true, true, true, true, false, false, false, false, false, false, false] rfl rfl (by kernel_rfl) (fun _ _ _ h => h) (Or.inl ⟨by rfl, ?_⟩) ?_ ?_
          rotate_left
          · intro w'
            go_simp
            with_reducible rfl
          rotate_left
          · simp only [Act.put, List.setIfInBounds_toArray, List.set_cons_zero, List.set_cons_succ]
            rfl
          refine pure_ (i := 4) (N := some 104) (v := ?_) (a' := ?_) #[true, true, true, true, true, false, false, false, false, false, false] rfl rfl (by kernel_rfl) (fun _ _ _ h => h) (Or.inl ⟨by rfl, ?_⟩) ?_ ?_
          rotate_left
          · intro w'
            go_simp
            with_reducible rfl
          rotate_left
          · simp only [Act.put, List.setIfInBounds_toArray, List.set_cons_zero, List.set_cons_succ]
            rfl
          refine take_ (i := 5) (N := some 105) (v := ?_) (a' := ?_) #[true, true, true, true, true, true, false, false, false, false, false] rfl rfl (by kernel_rfl) (fun _ _ _ h => h) (Or.inl ⟨by rfl, ?_⟩) hHeld ?_ ?_
          rotate_left
          · rintro w' ⟨s0, s1, s2, s3, s4, s5, s6, s7, s8⟩
            go_simp
            with_reducible rfl
          rotate_left
          · simp only [Act.put, List.setIfInBounds_toArray, List.set_cons_zero, List.set_cons_succ]
            rfl
          refine pure_ (i := 6) (N := some 106) (v := ?_) (a' := ?_) #[true, true, true, true, true, true, true, false, false, false, false] rfl rfl (by kernel_rfl) (fun _ _ _ h => h) (Or.inl ⟨by rfl, ?_⟩) ?_ ?_
          rotate_left
          · intro w'
            go_simp
            with_reducible rfl
          rotate_left
          · simp only [Act.put, List.setIfInBounds_toArray, List.set_cons_zero, List.set_cons_succ]
            rfl
          refine pure_ (i := 7) (N := some 107) (v := ?_) (a' := ?_) #[true, true, true, true, true, true, true, true, false, false, false] rfl rfl (by kernel_rfl) (fun _ _ _ h => h) (Or.inl ⟨by rfl, ?_⟩) ?_ ?_
          rotate_left
          · intro w'
            go_simp
            with_reducible rfl
          rotate_left
          · simp only [Act.put, List.setIfInBounds_toArray, List.set_cons_zero, List.set_cons_succ]
            rfl
          refine take_ (i := 8) (N := some 108) (v := ?_) (a' := ?_) #[true, true, true, true, true, true, true, true, true, false, false] rfl rfl (by kernel_rfl) (fun _ _ _ h => h) (Or.inl ⟨by rfl, ?_⟩) hHeld ?_ ?_
          rotate_left
          · rintro w' ⟨s0, s1, s2, s3, s4, s5, s6, s7, s8⟩
            go_simp
            with_reducible rfl
          rotate_left
          · simp only [Act.put, List.setIfInBounds_toArray, List.set_cons_zero, List.set_cons_succ]
            rfl
          refine last_ (i := 9) (N := some 109) #[true, true, true, true, true, true, true, true, true, true, false] rfl rfl (by kernel_rfl) (by decide) (fun K hK => ?_)
          refine goes_ Try.func28 (by kernel_rfl) rfl #[.agg #[.int .i64 d0.f0, .slice A10 d0.f1.length c10, .slice B10 d0.f2.length k10], .agg #[.int .i64 d1.f0, .slice A11 d1.f1.length c11, .slice B11 d1.f2.length k11], .agg #[.int .i64 d2.f0, .slice A12 d2.f1.length c12, .slice B12 d2.f2.length k12]] (by rfl) rfl rfl (by simp only [List.map_toArray, List.map_cons, List.map_nil]; rfl) ?_
          refine ((HP28.out V0 HV0.out)).mono ?_
          rintro e' V1 ⟨rfl, hb⟩
          refine ⟨_, rfl, ?_⟩
          have HV1 : Hid (Below w6.heap.size w6 V1) := HV0.out.trans (hb.out.mono HV0.out.size)
          refine hK.out _ _ ?_
          clear hK K hb hHeld
          refine norm_ (a' := ?_) ?_ ?_
          rotate_left
          · show Act.put _ (some 109) _ = _
            simp only [Act.put, List.setIfInBounds_toArray, List.set_cons_zero, List.set_cons_succ]
            rfl
          refine pure_ (i := 10) (N := some 2) (v := ?_) (a' := ?_) #[true, true, true, true, true, true, true, true, true, true, true] rfl rfl (by kernel_rfl) (fun _ _ _ h => h) (Or.inl ⟨by rfl, ?_⟩) ?_ ?_
          rotate_left
          · intro w'
            go_simp
            with_reducible rfl
          rotate_left
          · simp only [Act.put, List.setIfInBounds_toArray, List.set_cons_zero, List.set_cons_succ]
            rfl
          refine done_ (by kernel_rfl) ?_
          go_wp2_with (fail)
          go_ret
          exact ⟨rfl, HBf.out.trans (HV1.out.mono HBf.out.size)⟩

end Go.Proofs.Ytpplnhefpcofoaa.PDeltaJoin
