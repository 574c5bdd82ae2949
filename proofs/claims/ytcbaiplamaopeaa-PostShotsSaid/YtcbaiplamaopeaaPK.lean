/- PostRound, walked. -/
import Derived.Test.YtcbaiplamaopeaaPJ
import Derived.Test.YtcbaiplamaopeaaSX
namespace Go.Proofs.Ytcbaiplamaopeaa.PPostShots
open Go.RowKit Go.Conc Go.Proofs.YtcbaiplamaopeaaW.PrintWords Go.Proofs.YtcbaiplamaopeaaW.PrintLast Go.Proofs.Ytcbaiplamaopeaa.PPost
set_option linter.unusedVariables false
set_option linter.unusedSimpArgs false

theorem info4 : (Try.prog.info? 4).map (fun i => (i.zero, i.size, i.bytes)) = some (some (.bool false), 1, 1) := by kernel_rfl
def bools (D : List Bool) : Array Value := (D.map Value.bool).toArray
theorem bools_get (D : List Bool) (i : Nat) (h : i < D.length) : (bools D)[i]? = some (.bool (D.getD i false)) := by simp [bools, h]
theorem bools_set (D : List Bool) (i : Nat) (b : Bool) : (bools D).setIfInBounds i (.bool b) = bools (D.set i b) := by simp [bools, List.map_set]
theorem bools_made (n : Nat) : madeCells #[.bool false] n = bools (List.replicate n false) := by
  apply Array.ext'
  rw [toList_madeCells_one]
  simp [bools]
theorem fair7 (a b : Int) (w : World) : Calls Try.prog 7 #[.int .i64 a, .int .i64 b] w fun e w' => ∃ (n : Nat) (f : Int), e = .returned (.tuple #[.int .i64 n, .int .i64 f]) ∧ 1 ≤ n ∧ n ≤ 12 ∧ 1 ≤ f ∧ f ≤ 9999 ∧ Hid (Below w.heap.size w w') := by
  have key : ∃ (n : Nat) (f : Int), eddylaw14_fair.f 1 a b = some ((n : Int), f) ∧ 1 ≤ n ∧ n ≤ 12 ∧ 1 ≤ f ∧ f ≤ 9999 := by
    unfold eddylaw14_fair.f
    have hj : ∀ x, (x = false → 1 ≤ a ∧ a ≤ 12) → ∃ (n : Nat) (f : Int), eddylaw14_fair.j0 1 a b x = some ((n : Int), f) ∧ 1 ≤ n ∧ n ≤ 12 ∧ 1 ≤ f ∧ f ≤ 9999 := fun x hx => by
      simp only [eddylaw14_fair.j0]
      cases x with
      | true =>
        by_cases h1 : b < 1
        · simp only [if_true, if_pos h1]; exact ⟨2, 1, rfl, by omega, by omega, by omega, by omega⟩
        · simp only [if_true, if_neg h1]
          by_cases h2 : b > 9999
          · rw [if_pos h2]; exact ⟨2, 1, rfl, by omega, by omega, by omega, by omega⟩
          · rw [if_neg h2]; exact ⟨2, b, rfl, by omega, by omega, by omega, by omega⟩
      | false =>
        have := hx rfl
        have ha : ((a.toNat : Nat) : Int) = a := by omega
        by_cases h1 : b < 1
        · simp only [Bool.false_eq_true, if_false, if_pos h1]; exact ⟨a.toNat, 1, by rw [ha], by omega, by omega, by omega, by omega⟩
        · simp only [Bool.false_eq_true, if_false, if_neg h1]
          by_cases h2 : b > 9999
          · rw [if_pos h2]; exact ⟨a.toNat, 1, by rw [ha], by omega, by omega, by omega, by omega⟩
          · rw [if_neg h2]; exact ⟨a.toNat, b, by rw [ha], by omega, by omega, by omega, by omega⟩
    by_cases h0 : a < 1
    · rw [if_pos h0]; exact hj true (fun h => by cases h)
    · rw [if_neg h0]; exact hj _ (fun h => by simp at h; omega)
  obtain ⟨n, f, hf, h1, h2, h3, h4⟩ := key
  refine (eddylaw14_fair.calls 1 a b _ _ w hf).mono ?_
  rintro e w' ⟨rfl, ⟨k, rfl⟩⟩
  exact ⟨n, f, rfl, h1, h2, h3, h4, Lib.hid (pw_below_drewN (Below.refl _ _) k)⟩
theorem RH.new (n : Nat) (first sum : Int) : RH (((((PS.new n first sum).setU first).setN (first + 1)).setF first 1).emptied) n first sum (List.replicate n false) := by
  refine ⟨rfl, rfl, rfl, by simp, by simp [PS.emptied, PS.setF, PS.setN, PS.setU, PS.new], fun e he => (by cases he), fun t ht => ?_⟩
  rw [List.getD_eq_getElem?_getD] at ht
  by_cases h : t < n
  · rw [List.getElem?_replicate, if_pos h] at ht; cases ht
  · rw [List.getElem?_replicate, if_neg h] at ht; cases ht
set_option maxRecDepth 100000 in
set_option maxHeartbeats 20000000 in
theorem postRound_walk (a b sum : Int) (l : List Int) (A : Option Addr) (cl : Nat) (w : World) (hC : Kd.C (Kd.int .i64) w A l.length l) (hcl : l.length ≤ cl) (hl : l.length ≤ 1000000000000000) :
    Calls Try.prog 3 #[.int .i64 a, .int .i64 b, .int .u32 sum, .slice A l.length cl] w fun e w' => e = .returned (.bool true) ∧ Below w.heap.size w w' := by
  obtain ⟨m, hm⟩ : ∃ m, m = l.length := ⟨_, rfl⟩
  have Hm := Lib.hid hm
  have HC := Lib.hid hC
  have hm15 : m ≤ 1000000000000000 := by omega
  rw [← hm]
  clear hC hcl hl hm
  go_enter Try.func3, Try.ntmps3
  go_upto_region 3 with (first
    | (go_at_call 7; refine (fair7 a b w).mono ?_; rintro e w1 ⟨n, first, rfl, n1, n2, f1, f2, HB1⟩)
    | (go_at_call 8; refine (new8_ok n first sum (fun _ => 0) w1 1 (by decide) n1 n2 f1 (by omega)).mono ?_; rintro e w2 ⟨g, own2, bm, c, bw, bp, pps, rfl, HP2, HU2, hg, hown2⟩))
  have HU2' : Hid (Upd (fun t => t = 1 ∨ t = 2) (fun _ => 0) w own2 w2) := Lib.hid ((Upd.of_below' HB1.out (fun _ _ => rfl)).then (HU2.out.mono (fun _ h => h.elim)))
  have HT := Lib.hid (trigger9_ok own2 w2 g 1 _ bm c bw bp 0 0 0 pps [] HP2.out (by decide) (show ¬ (0 : Int) < 0 by decide) (show ¬ 9999 < first by omega) (by decide))
  clear HB1 HU2 hg hown2 HP2
  go_upto_region 8 with (go_at_call 9; refine HT.out.mono ?_; rintro e w3 ⟨rfl, own3, bm3, c3, bw3, bp3, nm3, s3, r3, pps3, pbuf3, hP3, hU3, hn3⟩
                         have HP3 := Lib.hid hP3
                         have HU3 := Lib.hid (HU2'.out.then (hU3.mono (fun _ h => .inl h)))
                         have Hn3 := Lib.hid hn3
                         clear hP3 hU3 hn3)
  have hmk := run_make_row' (P := Try.prog) 32 4 (.bool false) 1 Try.underlying32 info4 rfl .i64 .i64 n (by omega) (by omega) w3
  have HD4 : Hid ((w3.alloc (.cells (madeCells #[.bool false] n) 4)).heap[w3.heap.size]? = some (.cells (bools (List.replicate n false)) 4 (0, 0))) := Lib.hid (by rw [← bools_made]; exact blk_new _ _)
  obtain ⟨own4, hown4⟩ : ∃ own4 : Nat → Nat, own4 = fresh own3 w3 2 := ⟨_, rfl⟩
  have HP4 : Hid (PostAt own4 (w3.alloc (.cells (madeCells #[.bool false] n) 4)) g 1 ((((PS.new n first sum).setU first).setN (first + 1)).setF first 1).emptied bm3 c3 bw3 bp3 nm3 s3 r3 pps3 pbuf3) := Lib.hid (by rw [hown4]; exact HP3.out.upd (T := fun _ => False) (fun e => e) (fun e => e) (Upd.alloc _ 2))
  have HU4 : Hid (Upd (fun t => t = 1 ∨ t = 2) (fun _ => 0) w own4 (w3.alloc (.cells (madeCells #[.bool false] n) 4))) := Lib.hid (by rw [hown4]; exact HU3.out.then (Upd.alloc _ 2))
  have Hbd : Hid (own4 w3.heap.size = 2) := Lib.hid (by rw [hown4]; exact fresh_new (Nat.le_refl _))
  have HR4 := Lib.hid (RH.new n first sum)
  clear HT hown4 HP3 HU3 HU2'
  go_upto_block 0 with (fail)
  clear hmk
  generalize w3.alloc (.cells (madeCells #[.bool false] n) 4) = w4 at *
  generalize w3.heap.size = bd at *
  generalize ((((PS.new n first sum).setU first).setN (first + 1)).setF first 1).emptied = S4 at *
  go_cut [] (fun wr => ∃ (S : PS) (ownr : Nat → Nat) (bm c bw bp nm s r : Nat) (pps : List PP) (pbuf : List (Nat × PP)), Hid (PostAt ownr wr g 1 S bm c bw bp nm s r pps pbuf) ∧ Hid (RP S n first sum 0) ∧ Hid (Upd (fun t => t = 1 ∨ t = 2) (fun _ => 0) w ownr wr) ∧ Hid (nm ≤ 1))
  case first =>
    go_wp2_with (fail)
    go_loopw [14] (fun v14 wr => ∃ (k : Nat) (D : List Bool) (S : PS) (ownr : Nat → Nat) (bm c bw bp nm s r : Nat) (pps : List PP) (pbuf : List (Nat × PP)), k ≤ m + n ∧ v14 = .int .i64 k ∧ Hid (PostAt ownr wr g 1 S bm c bw bp nm s r pps pbuf) ∧ Hid (RH S n first sum D) ∧ Hid (∀ j, j + m < k → D.getD j false = true) ∧ Hid (wr.heap[bd]? = some (.cells (bools D) 4 (0, 0))) ∧ Hid (ownr bd = 2) ∧ Hid (Upd (fun t => t = 1 ∨ t = 2) (fun _ => 0) w ownr wr) ∧ Hid (nm ≤ 1)) (fun v14 _ => (m + n) - (intOf v14).toNat)
    case atStart => exact ⟨0, _, S4, own4, bm3, c3, bw3, bp3, nm3, s3, r3, pps3, pbuf3, Nat.zero_le _, rfl, HP4, HR4, Lib.hid (fun j hj => by omega), HD4, Hbd, HU4, Hn3⟩
    case round =>
      clear HP4 HR4 HD4 Hbd HU4 Hn3
      obtain ⟨k, D, S, ownr, bm, c, bw, bp, nm, s, r, pps, pbuf, hk, rfl, HP, HR, HDT, HD, Hbd, HU, Hnm⟩ := hrel
      by_cases hlt : k < m + n
      · skip
        have hBw : Below w.heap.size w wr := HU.out.below (Nat.le_refl _) (fun k _ h => by rcases h with h | h <;> exact absurd h (by decide))
        have HBw := Lib.hid hBw
        clear hBw
        go_upto_if 72 with (fail)
        go_cut [15] (fun v15 wx => ∃ t : Int, v15 = .int .i64 t ∧ Hid (wx = wr) ∧ Hid (m ≤ k → t = (k : Int) - m))
        case first =>
          by_cases hkm : k < m
          · have k1 : decide ((k : Int) - (m : Int) < 0) = true := decide_eq_true (by omega)
            obtain ⟨ad, hA, e0⟩ := Kd.at_int (Kd.C_below HC.out HBw.out) (k : Int) (by omega) (by rw [← Hm.out]; omega)
            rw [Int.toNat_natCast] at e0
            subst hA
            go_wp2_with (fail)
            go_meet
            exact ⟨_, rfl, Lib.hid rfl, Lib.hid (fun h => by omega)⟩
          · have k1 : decide ((k : Int) - (m : Int) < 0) = false := decide_eq_false (by omega)
            go_wp2_with (fail)
            go_meet
            exact ⟨_, rfl, Lib.hid rfl, Lib.hid (fun h => rfl)⟩
        case rest =>
        obtain ⟨t, rfl, hwx, ht⟩ := hcut
        have hwx := hwx.out
        subst hwx
        by_cases ht0 : t < 0
        · have k2 : decide (0 ≤ t) = false := decide_eq_false (by omega)
          have hbad : Hid (t < 0 ∨ (n : Int) ≤ t) := Lib.hid (.inl ht0)
          go_wp2_with (first
            | (go_at_call 11; refine (part11 _ _).mono ?_; rintro e w5 ⟨A1, c1, A2, c2, A3, c3, rfl, D1, D2, D3, hd1, hb⟩
               have HP5 := Lib.hid (HP.out.upd (T := fun _ => False) (fun e => e) (fun e => e) (Upd.of_below' hb.out (fun _ _ => rfl)))
               have HU5 := Lib.hid (HU.out.then (Upd.of_below' hb.out (fun _ _ => rfl)))
               have HD5 := Lib.hid (blk_below HD.out hb.out)
               clear hb)
            | (go_at_call 10; have hh := hand10 ownr w5 g 1 S bm c bw bp nm s r pps pbuf HP5.out (by decide) first t (prt (wrap64 (t + 1))) A1 c1 A2 c2 A3 c3 D1.out D2.out D3.out (prt_parts _)
               rw [HR.out.neg first t _ hbad.out] at hh
               refine hh.mono ?_; rintro e w6 ⟨rfl, own6, bm6, c6, bw6, bp6, nm6, s6, r6, pps6, pbuf6, hP6, hU6, hn6⟩
               have HP6 := Lib.hid hP6
               have HU6 := Lib.hid (HU5.out.then (hU6.mono (fun _ h => .inl h)))
               have HD6 := Lib.hid (hU6.blk HD5.out (by rw [Hbd.out]; decide))
               have Hbd6 : Hid (own6 bd = 2) := Lib.hid ((hU6.same bd (blk_lt HD5.out) (by rw [Hbd.out]; decide)).trans Hbd.out)
               have Hnm6 : Hid (nm6 ≤ 1) := Lib.hid (Nat.le_trans hn6 Hnm.out)
               clear hP6 hU6 hn6 hh))
          go_roundw
          case rel => exact ⟨k + 1, D, S, own6, bm6, c6, bw6, bp6, nm6, s6, r6, pps6, pbuf6, by omega, by go_num, HP6, HR, Lib.hid (fun j hj => by
            by_cases hjk : j + m = k
            · exfalso
              have h1 := ht.out (by omega)
              have h2 := hbad.out
              omega
            · exact HDT.out j (by omega)), HD6, Hbd6, HU6, Hnm6⟩
          case measure => simp [intOf]; omega
        by_cases htn : (n : Int) ≤ t
        · have k2 : decide (0 ≤ t) = true := decide_eq_true (by omega)
          have k3 : decide (t < (n : Int)) = false := decide_eq_false (by omega)
          have hbad : Hid (t < 0 ∨ (n : Int) ≤ t) := Lib.hid (.inr htn)
          go_wp2_with (first
            | (go_at_call 11; refine (part11 _ _).mono ?_; rintro e w5 ⟨A1, c1, A2, c2, A3, c3, rfl, D1, D2, D3, hd1, hb⟩
               have HP5 := Lib.hid (HP.out.upd (T := fun _ => False) (fun e => e) (fun e => e) (Upd.of_below' hb.out (fun _ _ => rfl)))
               have HU5 := Lib.hid (HU.out.then (Upd.of_below' hb.out (fun _ _ => rfl)))
               have HD5 := Lib.hid (blk_below HD.out hb.out)
               clear hb)
            | (go_at_call 10; have hh := hand10 ownr w5 g 1 S bm c bw bp nm s r pps pbuf HP5.out (by decide) first t (prt (wrap64 (t + 1))) A1 c1 A2 c2 A3 c3 D1.out D2.out D3.out (prt_parts _)
               rw [HR.out.neg first t _ hbad.out] at hh
               refine hh.mono ?_; rintro e w6 ⟨rfl, own6, bm6, c6, bw6, bp6, nm6, s6, r6, pps6, pbuf6, hP6, hU6, hn6⟩
               have HP6 := Lib.hid hP6
               have HU6 := Lib.hid (HU5.out.then (hU6.mono (fun _ h => .inl h)))
               have HD6 := Lib.hid (hU6.blk HD5.out (by rw [Hbd.out]; decide))
               have Hbd6 : Hid (own6 bd = 2) := Lib.hid ((hU6.same bd (blk_lt HD5.out) (by rw [Hbd.out]; decide)).trans Hbd.out)
               have Hnm6 : Hid (nm6 ≤ 1) := Lib.hid (Nat.le_trans hn6 Hnm.out)
               clear hP6 hU6 hn6 hh))
          go_roundw
          case rel => exact ⟨k + 1, D, S, own6, bm6, c6, bw6, bp6, nm6, s6, r6, pps6, pbuf6, by omega, by go_num, HP6, HR, Lib.hid (fun j hj => by
            by_cases hjk : j + m = k
            · exfalso
              have h1 := ht.out (by omega)
              have h2 := hbad.out
              omega
            · exact HDT.out j (by omega)), HD6, Hbd6, HU6, Hnm6⟩
          case measure => simp [intOf]; omega
        obtain ⟨τ, hτ⟩ : ∃ τ : Nat, t = τ := ⟨t.toNat, by omega⟩
        subst hτ
        have hτn : τ < n := by omega
        clear ht0 htn
        cases hd : D.getD τ false with
        | true =>
          have Hd := Lib.hid hd
          clear hd
          go_wp2_with (first
            | (go_at_call 11; refine (part11 _ _).mono ?_; rintro e w5 ⟨A1, c1, A2, c2, A3, c3, rfl, D1, D2, D3, hd1, hb⟩
               have HP5 := Lib.hid (HP.out.upd (T := fun _ => False) (fun e => e) (fun e => e) (Upd.of_below' hb.out (fun _ _ => rfl)))
               have HU5 := Lib.hid (HU.out.then (Upd.of_below' hb.out (fun _ _ => rfl)))
               have HD5 := Lib.hid (blk_below HD.out hb.out)
               clear hb)
            | (go_at_call 10; have hh := hand10 ownr w5 g 1 S bm c bw bp nm s r pps pbuf HP5.out (by decide) first τ (prt ((τ : Nat) + 1)) A1 c1 A2 c2 A3 c3 D1.out D2.out D3.out (prt_parts _)
               rw [HR.out.twice f1 τ hτn _ Hd.out] at hh
               refine hh.mono ?_; rintro e w6 ⟨rfl, own6, bm6, c6, bw6, bp6, nm6, s6, r6, pps6, pbuf6, hP6, hU6, hn6⟩
               have HP6 := Lib.hid hP6
               have HU6 := Lib.hid (HU5.out.then (hU6.mono (fun _ h => .inl h)))
               have HD6 := Lib.hid (hU6.blk HD5.out (by rw [Hbd.out]; decide))
               have Hbd6 : Hid (own6 bd = 2) := Lib.hid ((hU6.same bd (blk_lt HD5.out) (by rw [Hbd.out]; decide)).trans Hbd.out)
               have Hnm6 : Hid (nm6 ≤ 1) := Lib.hid (Nat.le_trans hn6 Hnm.out)
               have a0 : w6.cell? ⟨bd, τ, none⟩ = some (.bool true) := blk_at HD6.out τ ((bools_get D τ (by rw [HR.out.ld]; exact hτn)).trans (by rw [Hd.out]))
               clear hP6 hU6 hn6 hh))
          go_roundw
          case rel => exact ⟨k + 1, D, S, own6, bm6, c6, bw6, bp6, nm6, s6, r6, pps6, pbuf6, by omega, by go_num, HP6, HR, Lib.hid (fun j hj => by
            by_cases hjk : j + m = k
            · have h1 := ht.out (by omega)
              have h2 : j = τ := by omega
              rw [h2]; exact Hd.out
            · exact HDT.out j (by omega)), HD6, Hbd6, HU6, Hnm6⟩
          case measure => simp [intOf]; omega
        | false =>
          have Hd := Lib.hid hd
          clear hd
          go_wp2_with (first
            | (go_at_call 11; refine (part11 _ _).mono ?_; rintro e w5 ⟨A1, c1, A2, c2, A3, c3, rfl, D1, D2, D3, hd1, hb⟩
               have HP5 := Lib.hid (HP.out.upd (T := fun _ => False) (fun e => e) (fun e => e) (Upd.of_below' hb.out (fun _ _ => rfl)))
               have HU5 := Lib.hid (HU.out.then (Upd.of_below' hb.out (fun _ _ => rfl)))
               have HD5 := Lib.hid (blk_below HD.out hb.out)
               clear hb)
            | (go_at_call 10; have hh := hand10 ownr w5 g 1 S bm c bw bp nm s r pps pbuf HP5.out (by decide) first τ (prt ((τ : Nat) + 1)) A1 c1 A2 c2 A3 c3 D1.out D2.out D3.out (prt_parts _)
               rw [(HR.out.takes f1 τ hτn Hd.out).1] at hh
               refine hh.mono ?_; rintro e w6 ⟨rfl, own6, bm6, c6, bw6, bp6, nm6, s6, r6, pps6, pbuf6, hP6, hU6, hn6⟩
               have HP6 := Lib.hid hP6
               have HU6 := Lib.hid (HU5.out.then (hU6.mono (fun _ h => .inl h)))
               have HD6 := Lib.hid (hU6.blk HD5.out (by rw [Hbd.out]; decide))
               have Hbd6 : Hid (own6 bd = 2) := Lib.hid ((hU6.same bd (blk_lt HD5.out) (by rw [Hbd.out]; decide)).trans Hbd.out)
               have Hnm6 : Hid (nm6 ≤ 1) := Lib.hid (Nat.le_trans hn6 Hnm.out)
               have a0 : w6.cell? ⟨bd, τ, none⟩ = some (.bool false) := blk_at HD6.out τ ((bools_get D τ (by rw [HR.out.ld]; exact hτn)).trans (by rw [Hd.out]))
               have z0 : w6.frozen? ⟨bd, τ, none⟩ = false := blk_frozen HD6.out τ
               clear hP6 hU6 hn6 hh))
          go_roundw
          case rel =>
            have hu7 : Upd (· = 2) own6 w6 own6 (w6.setCell ⟨bd, τ, none⟩ (.bool true)) := set_own Hbd6.out τ _
            exact ⟨k + 1, D.set τ true, _, own6, bm6, c6, bw6, bp6, nm6, s6, r6, pps6, pbuf6, by omega, by go_num, Lib.hid (HP6.out.upd (T := (· = 2)) (by decide) (by decide) hu7), Lib.hid (HR.out.takes f1 τ hτn Hd.out).2, Lib.hid (fun j hj => by
              rw [List.getD_eq_getElem?_getD]
              by_cases hjt : j = τ
              · rw [hjt, List.getElem?_set_self (by rw [HR.out.ld]; exact hτn)]; rfl
              · rw [List.getElem?_set_ne (fun e => hjt e.symm), ← List.getD_eq_getElem?_getD]
                refine HDT.out j ?_
                by_cases hjk : j + m = k
                · have h1 := ht.out (by omega); omega
                · omega), Lib.hid ((blk_set HD6.out τ _).trans (by rw [bools_set])), Hbd6, Lib.hid (HU6.out.then (hu7.mono (fun _ h => .inr h))), Hnm6⟩
          case measure => simp [intOf]; omega
      · obtain rfl : k = m + n := by omega
        go_wp2_with (fail)
        go_meet
        exact ⟨S, ownr, bm, c, bw, bp, nm, s, r, pps, pbuf, HP, Lib.hid (HR.out.done HP.out.ok (fun t ht => HDT.out t (by omega))), HU, Hnm⟩
  case rest =>
  clear HP4 HR4 HD4 Hbd HU4 Hn3
  obtain ⟨S, own5, bm, c, bw, bp, nm, s, r, pps, pbuf, HP, HRP, HU, Hnm⟩ := hcut
  go_upto_block 2 with (fail)
  go_cut [] (fun wr => ∃ (S : PS) (ownr : Nat → Nat) (bm c bw bp nm s r : Nat) (pps : List PP) (pbuf : List (Nat × PP)), Hid (PostAt ownr wr g 1 S bm c bw bp nm s r pps pbuf) ∧ Hid (∃ k, k + 1 = n ∧ RP S n first sum k) ∧ Hid (Upd (fun t => t = 1 ∨ t = 2) (fun _ => 0) w ownr wr) ∧ Hid (nm ≤ 1))
  case first =>
    go_wp2_with (fail)
    go_loopw [18] (fun v18 wr => ∃ (k : Nat) (S : PS) (ownr : Nat → Nat) (bm c bw bp nm s r : Nat) (pps : List PP) (pbuf : List (Nat × PP)), k + 1 ≤ n ∧ v18 = .int .i64 (k + 1 : Nat) ∧ Hid (PostAt ownr wr g 1 S bm c bw bp nm s r pps pbuf) ∧ Hid (RP S n first sum k) ∧ Hid (Upd (fun t => t = 1 ∨ t = 2) (fun _ => 0) w ownr wr) ∧ Hid (nm ≤ 1)) (fun v18 _ => n - (intOf v18).toNat)
    case atStart => exact ⟨0, S, own5, bm, c, bw, bp, nm, s, r, pps, pbuf, n1, rfl, HP, HRP, HU, Hnm⟩
    case round =>
      clear HP HRP HU Hnm
      obtain ⟨k, S, ownr, bm, c, bw, bp, nm, s, r, pps, pbuf, hk, rfl, HP, HRP, HU, Hnm⟩ := hrel
      by_cases hlt : k + 1 < n
      · obtain ⟨t, x, rest, hbuf, hrp, hall, htn⟩ := HRP.out.step HP.out.ok (by omega)
        have Hbuf := Lib.hid hbuf
        have Hrp := Lib.hid hrp
        have Hall : Hid (¬ (S.took t x).all2 = true) := Lib.hid (fun h => by have := hall.1 h; omega)
        clear hbuf hrp hall htn
        go_wp2_with (go_at_call 12; refine (pick12 ownr wr g 1 S bm c bw bp nm s r pps pbuf HP.out (by decide) (by have := Hnm.out; unfold maxLen; omega)).mono ?_
                     intro e w6 hq
                     unfold PickAns at hq
                     rw [Hbuf.out] at hq
                     simp only [] at hq
                     rw [if_neg Hall.out] at hq
                     obtain ⟨rfl, own6, bm6, c6, bw6, bp6, nm6, s6, r6, pps6, pbuf6, hP6, hU6, hn6⟩ := hq
                     have HP6 := Lib.hid hP6
                     have HU6 := Lib.hid (HU.out.then (hU6.mono (fun _ h => .inl h)))
                     have Hnm6 : Hid (nm6 ≤ 1) := Lib.hid (Nat.le_trans hn6 Hnm.out)
                     clear hP6 hU6 hn6)
        go_roundw
        case rel => exact ⟨k + 1, _, own6, bm6, c6, bw6, bp6, nm6, s6, r6, pps6, pbuf6, by omega, by go_num, Lib.hid (HP6.out.upd (T := fun _ => False) (fun e => e) (fun e => e) (Upd.box _)), Hrp, Lib.hid (HU6.out.then (Upd.box _)), Hnm6⟩
        case measure => simp [intOf]; omega
      · go_wp2_with (fail)
        go_meet
        exact ⟨S, ownr, bm, c, bw, bp, nm, s, r, pps, pbuf, HP, Lib.hid ⟨k, by omega, HRP.out⟩, HU, Hnm⟩
  case rest =>
  clear HP HRP HU Hnm
  obtain ⟨S, own5, bm, c, bw, bp, nm, s, r, pps, pbuf, HP, hrp, HU, Hnm⟩ := hcut
  obtain ⟨k, hkn, hrp⟩ := hrp.out
  obtain ⟨t, x, rest, hbuf, hrp2, hall, htn⟩ := hrp.step HP.out.ok (by omega)
  rw [hkn] at hrp2
  have Hbuf := Lib.hid hbuf
  have Hall : Hid ((S.took t x).all2 = true) := Lib.hid (hall.2 hkn)
  have Hun : Hid (S.under = first) := Lib.hid hrp.un
  have Hsm : Hid (S.sum = sum) := Lib.hid hrp.sm
  have HSn : Hid (S.n = n) := Lib.hid hrp.en
  have Hps : Hid (∀ t', t' < n → (S.took t x).ps.getD t' z40 = prt ((t' : Nat) + 1)) := Lib.hid (hrp2.last (by show (S.ps.set t x).length = n; rw [List.length_set, HP.out.ok.lp, hrp.en]))
  have Hpl : Hid ((S.took t x).ps.length = n) := Lib.hid (by show (S.ps.set t x).length = n; rw [List.length_set, HP.out.ok.lp, hrp.en])
  clear hbuf hrp hrp2 hall htn hkn
  go_upto_region 28 with (go_at_call 12; refine (pick12 own5 wc g 1 S bm c bw bp nm s r pps pbuf HP.out (by decide) (by have := Hnm.out; unfold maxLen; omega)).mono ?_
                          intro e w6 hq
                          unfold PickAns at hq
                          rw [Hbuf.out] at hq
                          simp only [] at hq
                          rw [if_pos Hall.out] at hq
                          obtain ⟨own6, bm6, c6, bw6, bp6, nm6, s6, r6, pps6, pbuf6, v6, rfl, ⟨A6, cv, rfl, hcv, hS6⟩, hP6, hU6, hn6⟩ := hq
                          rw [Hpl.out] at hcv hS6 ⊢
                          rw [Hun.out, Hsm.out]
                          have HP6 := Lib.hid hP6
                          have HS6 := Lib.hid hS6
                          have Hcv := Lib.hid hcv
                          have HU6 := Lib.hid (HU.out.then (hU6.mono (fun _ h => .inl h)))
                          have Hnm6 : Hid (nm6 ≤ 2) := Lib.hid (by have := Hnm.out; omega)
                          clear hP6 hU6 hn6 hS6 hcv)
  have HB7 := Lib.hid (blk_new w6 (.cells #[.int .i64 first, .int .u32 sum, .slice A6 n cv] 44))
  have HP7 := Lib.hid (HP6.out.upd (T := fun _ => False) (fun e => e) (fun e => e) (Upd.box (.cells #[.int .i64 first, .int .u32 sum, .slice A6 n cv] 44)))
  have HU7 := Lib.hid (HU6.out.then (Upd.box (.cells #[.int .i64 first, .int .u32 sum, .slice A6 n cv] 44)))
  have HS7 := Lib.hid (HS6.out.upd (S := fun _ => False) (own' := own6) (fun e => e) (Upd.box (.cells #[.int .i64 first, .int .u32 sum, .slice A6 n cv] 44)))
  clear HP6 HU6 HS6
  generalize w6.alloc (.cells #[.int .i64 first, .int .u32 sum, .slice A6 n cv] 44) = w7 at *
  generalize w6.heap.size = bs at *
  have s0 : w7.cell? ⟨bs, 0, none⟩ = some (.int .i64 first) := blk_at HB7.out 0 rfl
  have s1 : w7.cell? ⟨bs, 1, none⟩ = some (.int .u32 sum) := blk_at HB7.out 1 rfl
  have s2 : w7.cell? ⟨bs, 2, none⟩ = some (.slice A6 n cv) := blk_at HB7.out 2 rfl
  go_upto_block 4 with (fail)
  go_cut [] (fun wr => Hid (Below w7.heap.size w7 wr))
  case first =>
    go_wp2_with (fail)
    go_loopw [23] (fun v23 wr => ∃ k : Nat, k ≤ n ∧ v23 = .int .i64 k ∧ Hid (Below w7.heap.size w7 wr)) (fun v23 _ => n - (intOf v23).toNat)
    case atStart => exact ⟨0, Nat.zero_le _, rfl, Lib.hid (Below.refl _ _)⟩
    case round =>
      obtain ⟨k, hk, rfl, HB⟩ := hrel
      by_cases hlt : k < n
      · obtain ⟨ad, A1, c1, A2, c2, A3, c3, hA, e0, e1, e2, e3, hl1, E1, hl2, E2, hl3, E3⟩ := at_T40 (Kd.C_below HS7.out.now HB.out) (k : Int) (by omega) (by omega)
        have hx : rd_T40 (S.took t x).ps (k : Int) = prt ((k : Nat) + 1) := by unfold rd_T40; rw [Int.toNat_natCast]; exact Hps.out k hlt
        have hs2 : wr.cell? ⟨bs, 2, none⟩ = some (.slice A6 n cv) := pw_cell_below HB.out s2
        rw [hA] at hs2
        generalize rd_T40 (S.took t x).ps (k : Int) = x at *
        rw [Int.toNat_natCast] at e0 e1 e2 e3
        have Hx := Lib.hid hx
        have HLE := Lib.hid hl1
        replace E1 := Lib.hid E1
        replace E2 := Lib.hid E2
        replace E3 := Lib.hid E3
        clear hx hl1 hl2 hl3 s0 s1 s2 hA
        have hwr : IntKind.i64.wrap ((k : Int) + 1) = (k : Int) + 1 := by rw [IntKind.wrap_i64]; omega
        go_upto_region 33 with (fail)
        refine start_ (n := 10) (S := (fun w' => w'.cell? ⟨bs, 2, none⟩ = some (.slice (some ad) n cv) ∧ w'.cell? (ad.add (k * 4)) = some (.int .i64 x.f0.f0) ∧ w'.cell? ⟨(ad.add (k * 4)).block, (ad.add (k * 4)).off + 1, none⟩ = some (.slice A1 x.f0.f1.length c1) ∧ w'.cell? ⟨(ad.add (k * 4)).block, (ad.add (k * 4)).off + 2, none⟩ = some (.slice A2 x.f1.length c2) ∧ w'.cell? ⟨(ad.add (k * 4)).block, (ad.add (k * 4)).off + 3, none⟩ = some (.slice A3 x.f2.length c3))) (ds := []) #[false, false, false, false, false, false, false, false, false, false] (by kernel_rfl) rfl rfl ⟨hs2, e0, e1, e2, e3⟩ (fun hHeld => ?_)
        have HBw : Hid (Below wr.heap.size wr wr.drew) := Lib.hid (Below.refl _ _).drew
        generalize wr.drew = W at *
        refine pure_ (i := 0) (N := some 149) (v := ?_) (a' := ?_) #[true, false, false, false, false, false, false, false, false, false] rfl rfl (by kernel_rfl) (fun _ _ _ h => h) (Or.inl ⟨by rfl, ?_⟩) ?_ ?_
        rotate_left
        · intro w'
          go_simp
          with_reducible rfl
        rotate_left
        · simp only [Act.put, List.setIfInBounds_toArray, List.set_cons_zero, List.set_cons_succ]
          rfl
        refine take_ (i := 1) (N := some 150) (v := ?_) (a' := ?_) #[true, true, false, false, false, false, false, false, false, false] rfl rfl (by kernel_rfl) (fun _ _ _ h => h) (Or.inl ⟨by rfl, ?_⟩) hHeld ?_ ?_
        rotate_left
        · rintro w' ⟨s0, s1, s2, s3, s4⟩
          go_simp
          with_reducible rfl
        rotate_left
        · simp only [Act.put, List.setIfInBounds_toArray, List.set_cons_zero, List.set_cons_succ]
          rfl
        refine pure_ (i := 2) (N := some 151) (v := ?_) (a' := ?_) #[true, true, true, false, false, false, false, false, false, false] rfl rfl (by kernel_rfl) (fun _ _ _ h => h) (Or.inl ⟨by rfl, ?_⟩) ?_ ?_
        rotate_left
        · intro w'
          go_simp
          with_reducible rfl
        rotate_left
        · simp only [Act.put, List.setIfInBounds_toArray, List.set_cons_zero, List.set_cons_succ]
          rfl
        refine pure_ (i := 3) (N := some 152) (v := ?_) (a' := ?_) #[true, true, true, true, false, false, false, false, false, false] rfl rfl (by kernel_rfl) (fun _ _ _ h => h) (Or.inl ⟨by rfl, ?_⟩) ?_ ?_
        rotate_left
        · intro w'
          go_simp
          with_reducible rfl
        rotate_left
        · simp only [Act.put, List.setIfInBounds_toArray, List.set_cons_zero, List.set_cons_succ]
          rfl
        refine take_ (i := 4) (N := some 153) (v := ?_) (a' := ?_) #[true, true, true, true, true, false, false, false, false, false] rfl rfl (by kernel_rfl) (fun _ _ _ h => h) (Or.inl ⟨by rfl, ?_⟩) hHeld ?_ ?_
        rotate_left
        · rintro w' ⟨s0, s1, s2, s3, s4⟩
          go_simp
          with_reducible rfl
        rotate_left
        · simp only [Act.put, List.setIfInBounds_toArray, List.set_cons_zero, List.set_cons_succ]
          rfl
        refine pure_ (i := 5) (N := some 154) (v := ?_) (a' := ?_) #[true, true, true, true, true, true, false, false, false, false] rfl rfl (by kernel_rfl) (fun _ _ _ h => h) (Or.inl ⟨by rfl, ?_⟩) ?_ ?_
        rotate_left
        · intro w'
          go_simp
          with_reducible rfl
        rotate_left
        · simp only [Act.put, List.setIfInBounds_toArray, List.set_cons_zero, List.set_cons_succ]
          rfl
        refine pure_ (i := 6) (N := some 155) (v := ?_) (a' := ?_) #[true, true, true, true, true, true, true, false, false, false] rfl rfl (by kernel_rfl) (fun _ _ _ h => h) (Or.inl ⟨by rfl, ?_⟩) ?_ ?_
        rotate_left
        · intro w'
          go_simp
          with_reducible rfl
        rotate_left
        · simp only [Act.put, List.setIfInBounds_toArray, List.set_cons_zero, List.set_cons_succ]
          rfl
        refine one_ (i := 7) (N := some 156) #[true, true, true, true, true, true, true, true, false, false] rfl rfl (by kernel_rfl) (by decide) (fun K hK => ?_)
        refine goes_ Try.func11 (by kernel_rfl) rfl #[.int .i64 ((k : Int) + 1)] (by rfl) rfl rfl (by simp only [List.map_toArray, List.map_cons, List.map_nil]; rfl) ?_
        refine (part11 ((k : Int) + 1) W).mono ?_
        rintro e w1 ⟨B1, d1, B2, d2, B3, d3, rfl, D1, D2, D3, hd1, hb⟩
        rw [← Hx.out] at D1 D2 D3 hd1 ⊢
        refine ⟨_, rfl, ?_⟩
        have HBx := Lib.hid (HBw.out.trans (hb.out.mono HBw.out.size))
        refine hK.out _ _ ⟨pw_cell_below hb.out hHeld.1, pw_cell_below hb.out hHeld.2.1, pw_cell_below hb.out hHeld.2.2.1, pw_cell_below hb.out hHeld.2.2.2.1, pw_cell_below hb.out hHeld.2.2.2.2⟩ (fun hHeld => ?_)
        clear hK K hb HBw
        refine norm_ (a' := ?_) ?_ ?_
        rotate_left
        · show Act.put _ (some 156) _ = _
          simp only [Act.put, List.setIfInBounds_toArray, List.set_cons_zero, List.set_cons_succ]
          rfl
        refine one_ (i := 8) (N := some 157) #[true, true, true, true, true, true, true, true, true, false] rfl rfl (by kernel_rfl) (by decide) (fun K hK => ?_)
        refine goes_ Try.func13 (by kernel_rfl) rfl #[.agg #[.int .i64 x.f0.f0, .slice A1 x.f0.f1.length c1, .slice A2 x.f1.length c2, .slice A3 x.f2.length c3], .agg #[.int .i64 x.f0.f0, .slice B1 x.f0.f1.length d1, .slice B2 x.f1.length d2, .slice B3 x.f2.length d3]] (by rfl) rfl rfl (by simp only [List.map_toArray, List.map_cons, List.map_nil]; rfl) ?_
        refine (same13 x.f0 x.f1 x.f2 A1 c1 A2 c2 A3 c3 B1 d1 B2 d2 B3 d3 w1 (Kd.C_below E1.out HBx.out) (Kd.C_below E2.out HBx.out) (Kd.C_below E3.out HBx.out) D1.out D2.out D3.out HLE.out hd1.out (by rw [Hx.out]; simp [prt, partsC]) (by rw [Hx.out]; intro y hy; simp [prt] at hy; subst hy; simp) (by rw [Hx.out]; intro z hz y hy; simp [prt] at hz; subst hz; simp at hy; subst hy; simp)).mono ?_
        rintro e w2 ⟨rfl, hb⟩
        refine ⟨_, rfl, ?_⟩
        have HB2 := Lib.hid (HBx.out.trans (hb.out.mono HBx.out.size))
        refine hK.out _ _ ⟨pw_cell_below hb.out hHeld.1, pw_cell_below hb.out hHeld.2.1, pw_cell_below hb.out hHeld.2.2.1, pw_cell_below hb.out hHeld.2.2.2.1, pw_cell_below hb.out hHeld.2.2.2.2⟩ (fun hHeld => ?_)
        clear hK K hb HBx D1 D2 D3 hd1
        refine norm_ (a' := ?_) ?_ ?_
        rotate_left
        · show Act.put _ (some 157) _ = _
          simp only [Act.put, List.setIfInBounds_toArray, List.set_cons_zero, List.set_cons_succ]
          rfl
        refine pure_ (i := 9) (N := some 158) (v := ?_) (a' := ?_) #[true, true, true, true, true, true, true, true, true, true] rfl rfl (by kernel_rfl) (fun _ _ _ h => h) (Or.inl ⟨by rfl, ?_⟩) ?_ ?_
        rotate_left
        · intro w'
          go_simp
          with_reducible rfl
        rotate_left
        · simp only [Act.put, List.setIfInBounds_toArray, List.set_cons_zero, List.set_cons_succ]
          rfl
        refine done_ (by kernel_rfl) ?_
        clear hHeld e0 e1 e2 e3 hs2
        go_wp2_with (fail)
        go_roundw
        case rel => exact ⟨k + 1, by omega, by go_num, Lib.hid (HB.out.trans (HB2.out.mono HB.out.size))⟩
        case measure => simp [intOf]; omega
      · go_wp2_with (fail)
        go_meet
        exact HB
  case rest =>
  clear s0 s1 s2
  have HP8 := Lib.hid (HP7.out.upd (T := fun _ => False) (own' := own6) (fun e => e) (fun e => e) (Upd.of_below' hcut.out (fun _ _ => rfl)))
  have HU8 := Lib.hid (HU7.out.then (o3 := own6) (Upd.of_below' hcut.out (fun _ _ => rfl)))
  clear HP7 HU7 HS7
  go_upto_region 36 with (go_at_call 12; refine (pick12 own6 wc g 1 _ bm6 c6 bw6 bp6 nm6 s6 r6 pps6 pbuf6 HP8.out (by decide) (by have := Hnm6.out; unfold maxLen; omega)).mono ?_
                          rintro e w9 ⟨rfl, own9, bm9, c9, bw9, bp9, nm9, s9, r9, pps9, pbuf9, hP9, hU9, hn9⟩
                          have HP9 := Lib.hid hP9
                          have HU9 := Lib.hid (HU8.out.then (hU9.mono (fun _ h => .inl h)))
                          clear hP9 hU9 hn9)
  have HST := Lib.hid (status14 own9 _ g 1 _ bm9 c9 bw9 bp9 nm9 s9 r9 pps9 pbuf9 (HP9.out.upd (T := fun _ => False) (fun e => e) (fun e => e) (Upd.box (.cells #[.int .i64 0, .int .u32 0, .slice none 0 0] 44))) (by decide) first (wf_of (by omega) (by omega)))
  have hst : (S.took t x).shot.f first = 2 := by
    show (if first = S.under then (2 : Int) else S.f first) = 2
    rw [if_pos Hun.out.symm]
  rw [hst] at HST
  go_wp2_with (go_at_call 14; refine HST.out.mono ?_; rintro e w10 ⟨rfl, rfl⟩)
  go_ret
  exact ⟨rfl, (HU9.out.below (Nat.le_refl _) (fun k _ h => by rcases h with h | h <;> exact absurd h (by decide))).alloc HU9.out.size _⟩
end Go.Proofs.Ytcbaiplamaopeaa.PPostShots
