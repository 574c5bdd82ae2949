/- The document's book: what its memory says; closed, copied, Held, Now. -/
import Derived.Test.YtomfknblehkocaaBK
namespace Go.Proofs.Ytomfknblehkocaa.C
open Go.RowKit Go.Proofs.YtomfknblehkocaaW.PrintWords Go.Proofs.YtomfknblehkocaaW.PrintLast
set_option linter.unusedVariables false
set_option linter.unusedSimpArgs false
/-- The document's book. -/
structure Rk where
  mode : Int
  ports : Int
  back : Int
  last : Int
  list : List S109
  handed : Bool
def told (last port : Int) (t : S109) : Bool := t.f1 == last && decide (0 < t.f1) && t.f0 == port
def cloFrom (last port : Int) : List S109 → Nat → Int
  | [], _ => -1
  | t :: l, i => if told last port t = true then (i : Int) else cloFrom last port l (i + 1)
def Rk.clo (r : Rk) (port : Int) : Int := cloFrom r.last port r.list 0
def copLoop (r : Rk) : Nat → Nat → Int → Int
  | 0, _, m => m
  | n + 1, p, m => if (p : Int) = r.back then copLoop r n (p + 1) m else if r.clo p < 0 then -1 else copLoop r n (p + 1) (if m ≤ r.clo p then r.clo p else m)
def Rk.cop (r : Rk) : Int := if r.list.length = 0 then -1 else if r.mode ≠ 1 then 0 else copLoop r r.ports.toNat 0 0
def Rk.held (r : Rk) (port : Int) : Bool := r.mode == 1 && decide (r.cop < 0) && decide (0 ≤ r.clo port)
/-- It lies at block g: own: 1 its own block, 2 the list's; 0: none of it. -/
structure RkAt (w : World) (base : Nat) (own : Nat → Nat) (g : Nat) (r : Rk) (A : Option Addr) (c : Nat) : Prop where
  hb : w.heap[g]? = some (.cells #[.int .i64 r.mode, .int .i64 r.ports, .int .i64 r.back, .int .i64 r.last, .slice A r.list.length c, .bool r.handed] 99 (0, 0))
  hl : Kd.R k109 109 w base (fun k => own k = 2) (.slice A r.list.length c) r.list
  hp : 1 ≤ r.ports ∧ r.ports ≤ 4
  og : own g = 1
  lo : ∀ k, own k ≠ 0 → base ≤ k ∧ k < w.heap.size
theorem RkAt.below {w W : World} {base : Nat} {own : Nat → Nat} {g : Nat} {r : Rk} {A : Option Addr} {c : Nat} (h : RkAt w base own g r A c) (hb : Below w.heap.size w W) : RkAt W base own g r A c :=
  ⟨(hb.block g (blk_lt h.hb)).trans h.hb, Kd.R_below h.hl hb, h.hp, h.og, fun k hk => ⟨(h.lo k hk).1, Nat.lt_of_lt_of_le (h.lo k hk).2 hb.size⟩⟩
theorem clo_step (last port : Int) (l : List S109) (k : Nat) (z : S109) (h : k < l.length) : cloFrom last port (l.drop k) k = if told last port (l.getD k z) = true then (k : Int) else cloFrom last port (l.drop (k + 1)) (k + 1) := by
  rw [List.drop_eq_getElem_cons h, List.getD_eq_getElem?_getD, List.getElem?_eq_getElem h]
  rfl
theorem cloFrom_ge (last port : Int) : ∀ (l : List S109) (i : Nat), cloFrom last port l i = -1 ∨ ((i : Int) ≤ cloFrom last port l i ∧ cloFrom last port l i < (i + l.length : Nat))
  | [], i => .inl rfl
  | t :: l, i => by
    unfold cloFrom
    split
    · right; simp only [List.length_cons]; omega
    · rcases cloFrom_ge last port l (i + 1) with h | h
      · exact .inl h
      · right; simp only [List.length_cons]; omega
theorem Rk.clo_ge (r : Rk) (port : Int) : -1 ≤ r.clo port ∧ r.clo port < r.list.length := by
  unfold Rk.clo
  rcases cloFrom_ge r.last port r.list 0 with h | h
  · rw [h]; omega
  · omega
section
variable {w : World} {base : Nat} {own : Nat → Nat} {g : Nat} {r : Rk} {A : Option Addr} {c : Nat}
def IntIs (n : Int) (w : World) (e : Ending) (w' : World) : Prop := e = .returned (.int .i64 n) ∧ Hid (Below w.heap.size w w')
def BoolIs (b : Bool) (w : World) (e : Ending) (w' : World) : Prop := e = .returned (.bool b) ∧ Hid (Below w.heap.size w w')
set_option maxRecDepth 100000 in
set_option maxHeartbeats 4000000 in
theorem closed62 (h : RkAt w base own g r A c) (port : Int) : Calls Try.prog 62 #[.pointer (some ⟨g, 0, none⟩), .int .i64 port] w fun e w' => IntIs (r.clo port) w e w' := by
  obtain ⟨n, hn⟩ : ∃ n, n = r.list.length := ⟨_, rfl⟩
  have HBk := Lib.hid h.hb
  have HC := Lib.hid (Kd.R_reads' h.hl).2.2
  have hmx : n ≤ 9223372036854775807 := by rw [hn]; exact Kd.C_max HC.out
  have Hn := Lib.hid hn
  rw [← hn] at HBk
  clear h hn
  go_enter Try.func62, Try.ntmps62
  go_wp2
  go_loopw [5] (fun v5 wr => ∃ k : Nat, k ≤ n ∧ v5 = .int .i64 k ∧ Hid (Below w.heap.size w wr) ∧ Hid (r.clo port = cloFrom r.last port (r.list.drop k) k)) (fun v5 _ => n - (intOf v5).toNat)
  case atStart => exact ⟨0, Nat.zero_le _, rfl, Lib.hid (Below.refl _ _), Lib.hid rfl⟩
  case round =>
    obtain ⟨k, hk, rfl, HB, HK⟩ := hrel
    have HBw : Hid (wr.heap[g]? = some (.cells #[.int .i64 r.mode, .int .i64 r.ports, .int .i64 r.back, .int .i64 r.last, .slice A n c, .bool r.handed] 99 (0, 0))) := (HB.out.block _ (blk_lt HBk.out)).trans HBk.out
    have c3 : wr.cell? ⟨g, 3, none⟩ = some (.int .i64 r.last) := blk_at HBw.out 3 rfl
    have c4 : wr.cell? ⟨g, 4, none⟩ = some (.slice A n c) := blk_at HBw.out 4 rfl
    by_cases hlt : k < n
    · obtain ⟨ad, A6, c6, A7, c7, A8, c8, A10, c10, A11, c11, rfl, e0, e1, e2, e3, e4, e5, e6, e7, e8, e9, e10, e11, _⟩ := at_T109 HC.out (k : Int) (by omega) (by rw [← Hn.out]; omega)
      clear e2 e3 e4 e5 e6 e7 e8 e9 e10 e11
      have hst := clo_step r.last port r.list k z109 (by rw [← Hn.out]; exact hlt)
      have hrd : r.list.getD k z109 = rd_T109 r.list (k : Int) := by unfold rd_T109; rw [Int.toNat_natCast]
      rw [hrd] at hst
      clear hrd
      generalize rd_T109 r.list (k : Int) = y at *
      rw [Int.toNat_natCast] at e0 e1
      replace e0 := (HB.out.cell (World.block_lt_of_cell? w _ e0)).trans e0
      replace e1 := (HB.out.cell (World.block_lt_of_cell? w _ e1)).trans e1
      have HS : Hid (r.clo port = if told r.last port y = true then (k : Int) else cloFrom r.last port (r.list.drop (k + 1)) (k + 1)) := HK.out.trans hst
      clear hst HK
      have i1 : (0 : Int) ≤ (k : Int) := by omega
      have i2 : (k : Int) < (n : Int) := by omega
      by_cases h1 : y.f1 = r.last
      · have t1 : (y.f1 == r.last) = true := by simp [h1]
        by_cases h2 : 0 < y.f1
        · have t2 : decide (0 < y.f1) = true := decide_eq_true h2
          by_cases h3 : y.f0 = port
          · have t3 : (y.f0 == port) = true := by simp [h3]
            have HE : Hid (r.clo port = k) := by rw [HS.out, if_pos (by unfold told; rw [t1, t2, t3]; rfl)]; exact Lib.hid rfl
            have T1 := Lib.hid t1; have T2 := Lib.hid t2; have T3 := Lib.hid t3
            clear h1 h2 h3 HS
            go_wp2
            go_quiet (fail)
            go_wp2
            go_ret
            exact ⟨congrArg (fun z => Ending.returned (.int .i64 z)) HE.out.symm, Lib.hid (pw_below_drewN HB.out _)⟩
          · have t3 : (y.f0 == port) = false := beq_false_of_ne h3
            have HE : Hid (r.clo port = cloFrom r.last port (r.list.drop (k + 1)) (k + 1)) := by rw [HS.out, if_neg (by unfold told; rw [t1, t2, t3]; simp)]; exact Lib.hid rfl
            clear h1 h2 h3 HS
            go_wp2
            go_quiet (fail)
            go_wp2
            go_roundw
            case rel => exact ⟨k + 1, by omega, by go_num, Lib.hid (pw_below_drewN HB.out _), HE⟩
            case measure => simp [intOf]; omega
        · have t2 : decide (0 < y.f1) = false := decide_eq_false h2
          have HE : Hid (r.clo port = cloFrom r.last port (r.list.drop (k + 1)) (k + 1)) := by rw [HS.out, if_neg (by unfold told; rw [t1, t2]; simp)]; exact Lib.hid rfl
          clear h1 h2 HS
          go_wp2
          go_quiet (fail)
          go_wp2
          go_roundw
          case rel => exact ⟨k + 1, by omega, by go_num, Lib.hid (pw_below_drewN HB.out _), HE⟩
          case measure => simp [intOf]; omega
      · have t1 : (y.f1 == r.last) = false := beq_false_of_ne h1
        have HE : Hid (r.clo port = cloFrom r.last port (r.list.drop (k + 1)) (k + 1)) := by rw [HS.out, if_neg (by unfold told; rw [t1]; simp)]; exact Lib.hid rfl
        clear h1 HS
        go_wp2
        go_quiet (fail)
        go_wp2
        go_roundw
        case rel => exact ⟨k + 1, by omega, by go_num, Lib.hid (pw_below_drewN HB.out _), HE⟩
        case measure => simp [intOf]; omega
    · have HE : Hid (r.clo port = -1) := by
        rw [HK.out, List.drop_eq_nil_of_le (by rw [← Hn.out]; omega)]
        exact Lib.hid rfl
      go_wp2
      go_ret
      exact ⟨congrArg (fun z => Ending.returned (.int .i64 z)) HE.out.symm, HB⟩
theorem now32 (h : RkAt w base own g r A c) : Calls Try.prog 32 #[.pointer (some ⟨g, 0, none⟩)] w fun e w' => IntIs r.last w e w' := by
  have h3 : w.cell? ⟨g, 3, none⟩ = some (.int .i64 r.last) := blk_at h.hb 3 rfl
  clear h
  go_enter Try.func32, Try.ntmps32
  go_wp2
  go_ret
  exact ⟨rfl, Lib.hid (Below.refl _ _)⟩
set_option maxRecDepth 100000 in
set_option maxHeartbeats 4000000 in
theorem copied63 (h : RkAt w base own g r A c) : Calls Try.prog 63 #[.pointer (some ⟨g, 0, none⟩)] w fun e w' => IntIs r.cop w e w' := by
  obtain ⟨n, hn⟩ : ∃ n, n = r.list.length := ⟨_, rfl⟩
  have HBk := Lib.hid h.hb
  have HX := Lib.hid h
  have hmx : n ≤ 9223372036854775807 := by rw [hn]; exact Kd.C_max (Kd.R_reads' h.hl).2.2
  have hp := h.hp
  obtain ⟨pn, hpn⟩ : ∃ pn : Nat, r.ports = pn := ⟨r.ports.toNat, by omega⟩
  rw [hpn] at hp
  have Hn := Lib.hid hn
  have Hpn := Lib.hid hpn
  rw [← hn, hpn] at HBk
  have c4 : w.cell? ⟨g, 4, none⟩ = some (.slice A n c) := blk_at HBk.out 4 rfl
  have c0 : w.cell? ⟨g, 0, none⟩ = some (.int .i64 r.mode) := blk_at HBk.out 0 rfl
  clear h hn hpn
  by_cases h0 : n = 0
  · subst h0
    have HE : Hid (r.cop = -1) := by unfold Rk.cop; rw [if_pos Hn.out.symm]; exact Lib.hid rfl
    go_enter Try.func63, Try.ntmps63
    go_wp2
    go_ret
    exact ⟨congrArg (fun z => Ending.returned (.int .i64 z)) HE.out.symm, Lib.hid (Below.refl _ _)⟩
  have h0' : ((n : Int) == 0) = false := beq_false_of_ne (by omega)
  have H0 : Hid (¬ r.list.length = 0) := by rw [← Hn.out]; exact Lib.hid h0
  clear h0
  by_cases hm : r.mode = 1
  rotate_left
  · have hm' : (r.mode != 1) = true := by simp [hm]
    have HE : Hid (r.cop = 0) := by unfold Rk.cop; rw [if_neg H0.out, if_pos hm]; exact Lib.hid rfl
    clear hm
    go_enter Try.func63, Try.ntmps63
    go_wp2
    go_ret
    exact ⟨congrArg (fun z => Ending.returned (.int .i64 z)) HE.out.symm, Lib.hid (Below.refl _ _)⟩
  have hm' : (r.mode != 1) = false := by simp [hm]
  have HE : Hid (r.cop = copLoop r pn 0 0) := by unfold Rk.cop; rw [if_neg H0.out, if_neg (by simp [hm]), Hpn.out, Int.toNat_natCast]; exact Lib.hid rfl
  clear hm
  go_enter Try.func63, Try.ntmps63
  go_wp2
  clear c0 c4 hm' h0'
  go_loopw [3, 4] (fun v3 v4 wr => ∃ (p : Nat) (m : Int), p ≤ pn ∧ v4 = .int .i64 p ∧ v3 = .int .i64 m ∧ 0 ≤ m ∧ m ≤ n ∧ Hid (Below w.heap.size w wr) ∧ Hid (r.cop = copLoop r (pn - p) p m)) (fun _ v4 _ => pn - (intOf v4).toNat)
  case atStart => exact ⟨0, 0, Nat.zero_le _, rfl, rfl, Int.le_refl _, by omega, Lib.hid (Below.refl _ _), HE⟩
  case round =>
    clear HE
    obtain ⟨p, m, hk, rfl, rfl, hm0, hm1, HB, HE⟩ := hrel
    have HXw : Hid (RkAt wr base own g r A c) := HX.out.below HB.out
    have HBw : Hid (wr.heap[g]? = some (.cells #[.int .i64 r.mode, .int .i64 pn, .int .i64 r.back, .int .i64 r.last, .slice A n c, .bool r.handed] 99 (0, 0))) := (HB.out.block _ (blk_lt HBk.out)).trans HBk.out
    have c1 : wr.cell? ⟨g, 1, none⟩ = some (.int .i64 pn) := blk_at HBw.out 1 rfl
    have c2 : wr.cell? ⟨g, 2, none⟩ = some (.int .i64 r.back) := blk_at HBw.out 2 rfl
    by_cases hlt : p < pn
    rotate_left
    · have HF : Hid (r.cop = m) := by rw [HE.out, show pn - p = 0 by omega]; exact Lib.hid rfl
      go_wp2
      go_ret
      exact ⟨congrArg (fun z => Ending.returned (.int .i64 z)) HF.out.symm, HB⟩
    have HS : Hid (r.cop = if (p : Int) = r.back then copLoop r (pn - (p + 1)) (p + 1) m else if r.clo p < 0 then -1 else copLoop r (pn - (p + 1)) (p + 1) (if m ≤ r.clo p then r.clo p else m)) := by
      rw [HE.out, show pn - p = (pn - (p + 1)) + 1 by omega]
      exact Lib.hid rfl
    clear HE
    by_cases hb : (p : Int) = r.back
    · have hb' : ((p : Int) == r.back) = true := by simp [hb]
      have HF : Hid (r.cop = copLoop r (pn - (p + 1)) (p + 1) m) := by rw [HS.out, if_pos hb]; exact Lib.hid rfl
      clear hb HS
      go_wp2
      go_roundw
      case rel => exact ⟨p + 1, m, by omega, by go_num, rfl, hm0, hm1, HB, HF⟩
      case measure => simp [intOf]; omega
    have hb' : ((p : Int) == r.back) = false := beq_false_of_ne hb
    have HCl := Lib.hid (closed62 HXw.out p)
    have hcl := r.clo_ge p
    rw [← Hn.out] at hcl
    by_cases hc : r.clo p < 0
    · have HF : Hid (r.cop = -1) := by rw [HS.out, if_neg hb, if_pos hc]; exact Lib.hid rfl
      have Hc := Lib.hid hc
      generalize r.clo p = q at *
      have hq : decide (q < 0) = true := decide_eq_true hc
      clear hb HS hc
      go_wp2_with (first
        | (go_at_call 62; refine HCl.out.mono ?_; rintro e w1 ⟨rfl, hb1⟩))
      go_ret
      exact ⟨congrArg (fun z => Ending.returned (.int .i64 z)) HF.out.symm, Lib.hid (HB.out.trans (hb1.out.mono HB.out.size))⟩
    · by_cases hx : m ≤ r.clo p
      · have HF : Hid (r.cop = copLoop r (pn - (p + 1)) (p + 1) (r.clo p)) := by rw [HS.out, if_neg hb, if_neg hc, if_pos hx]; exact Lib.hid rfl
        generalize r.clo p = q at *
        have hq : decide (q < 0) = false := decide_eq_false hc
        clear hb HS hc
        go_wp2_with (first
          | (go_at_call 62; refine HCl.out.mono ?_; rintro e w1 ⟨rfl, hb1⟩
             have HB1 : Hid (Below w.heap.size w w1) := HB.out.trans (hb1.out.mono HB.out.size)
             clear hb1))
        go_roundw
        case rel => exact ⟨p + 1, q, by omega, by go_num, by simp; omega, by omega, by omega, HB1, HF⟩
        case measure => simp [intOf]; omega
      · have HF : Hid (r.cop = copLoop r (pn - (p + 1)) (p + 1) m) := by rw [HS.out, if_neg hb, if_neg hc, if_neg hx]; exact Lib.hid rfl
        generalize r.clo p = q at *
        have hq : decide (q < 0) = false := decide_eq_false hc
        clear hb HS hc
        go_wp2_with (first
          | (go_at_call 62; refine HCl.out.mono ?_; rintro e w1 ⟨rfl, hb1⟩
             have HB1 : Hid (Below w.heap.size w w1) := HB.out.trans (hb1.out.mono HB.out.size)
             clear hb1))
        go_roundw
        case rel => exact ⟨p + 1, m, by omega, by go_num, by simp, by omega, by omega, HB1, HF⟩
        case measure => simp [intOf]; omega
end
end Go.Proofs.Ytomfknblehkocaa.C
