/- One call of a script. -/
import Derived.Test.YtcbfddhdaamimaaBT
namespace Go.Proofs.Ytcbfddhdaamimaa.PLaneFifo
open Go.RowKit Go.Conc Go.Proofs.YtcbfddhdaamimaaW.PrintWords Go.Proofs.YtcbfddhdaamimaaW.PrintLast
set_option linter.unusedVariables false
set_option linter.unusedSimpArgs false

def Inv (xs : List S35) : Prop := ∀ x ∈ xs, cop x = x ∧ 0 ≤ x.f0 ∧ partsR x.f1 ≤ 100000
def Bnd (rm : Int) (xs : List S35) : Prop := rm = 0 ∨ recsX xs ≤ rm
theorem Bnd.tail {rm : Int} {x : S35} {xs : List S35} (h : Bnd rm (x :: xs)) : Bnd rm xs := by
  unfold Bnd at h ⊢
  rw [recsX_cons] at h
  rcases h with h | h
  · exact .inl h
  · right; split at h <;> omega
theorem putP_bnd (rm : Int) : ∀ (ys xs : List S35), Bnd rm xs → Bnd rm (putP rm xs ys).2.2
  | [], xs, h => by simpa [putP] using h
  | y :: ys, xs, h => by
    by_cases hs : stops rm xs y = 0
    · rw [putP_cons _ _ _ _ hs]
      refine putP_bnd rm ys _ ?_
      unfold Bnd at h ⊢
      rw [recsX_snoc, cop_f0]
      rcases h with h | h
      · exact .inl h
      · by_cases hz : y.f0 = 0
        · rw [if_pos hz]
          have hx := recsX_le xs
          have hf : fullX rm xs = false := by
            cases hq : fullX rm xs with
            | false => rfl
            | true =>
              exfalso
              unfold stops at hs
              rw [if_neg (by omega), if_pos ⟨hz, hq⟩] at hs
              cases hs
          unfold fullX at hf
          by_cases hr : 0 < rm
          · rw [decide_eq_true hr, Bool.true_and] at hf
            have := of_decide_eq_false hf
            right; omega
          · left; omega
        · rw [if_neg hz]; right; omega
    · rw [putP_stop _ _ _ _ hs]; exact h
theorem Rel.len {xs : List S35} {rs : List S33} {ms : List Int} {oR oM : Nat} (h : Rel xs rs ms oR oM) (h0 : ∀ x ∈ xs, 0 ≤ x.f0) : xs.length ≤ rs.length + ms.length := by
  have h1 := congrArg List.length h.r
  have h2 := congrArg List.length h.m
  rw [List.length_drop, List.length_map] at h1
  rw [List.length_drop] at h2
  have key : ∀ l : List S35, (∀ x ∈ l, 0 ≤ x.f0) → l.length = (recF l).length + (marksX l).length := by
    intro l
    induction l with
    | nil => intro _; rfl
    | cons x l ih =>
      intro hl
      have := ih (fun y hy => hl y (List.mem_cons_of_mem _ hy))
      have hx := hl x (by simp)
      rw [recF_cons, marksX_cons]
      by_cases hz : x.f0 = 0
      · rw [if_pos hz, if_neg (by omega), List.length_cons, List.length_cons]; omega
      · rw [if_neg hz, if_pos (by omega), List.length_cons, List.length_cons]; omega
  have := key xs h0
  omega
theorem Rel.hR' {xs : List S35} {q : List Pq} {ms : List Int} {oR oM : Nat} (h : Rel xs (q.map (·.1)) ms oR oM) : oR ≤ q.length := by have := h.hR; rw [List.length_map] at this; exact this
/-- The lane and its book. -/
def Both (own : Nat → Nat) (w : World) (g b : Nat) (rm : Int) (tot : Nat) : Prop := ∃ l c cap s r q ms oR oM Ar cr Am cm, LaneAt own w g rm false l c cap s r ∧ BookAt own w b q ms oR oM Ar cr Am cm ∧ Rel (l.map (·.1)) (q.map (·.1)) ms oR oM ∧ Inv (l.map (·.1)) ∧ Bnd rm (l.map (·.1)) ∧ q.length + ms.length ≤ tot
theorem pull_no {own : Nat → Nat} {w w' : World} {g : Nat} {rm : Int} {l : List Pr} {e : Ending} (h : PullAns own w g rm l e w') (hno : ∀ x ∈ l.map (·.1), ¬ 0 < x.f0) : e = .returned (.tuple #[.int .i64 0, .slice none 0 0]) ∧ LaneTo own w g rm false l w' := by
  rcases h with ⟨-, h1, h2⟩ | ⟨a, y, b, l8, A8, cc8, own8, c8, cap8, s8, r8, ha, hna, hy, -⟩
  · exact ⟨h1, h2⟩
  · exact absurd hy (hno y (by rw [ha]; simp))
theorem pull_yes {own : Nat → Nat} {w w' : World} {g : Nat} {rm : Int} {l : List Pr} {e : Ending} (h : PullAns own w g rm l e w') (hs : ¬ ∀ x ∈ l.map (·.1), ¬ 0 < x.f0) : ∃ a y b l2 A cc own' c cap s r, l.map (·.1) = a ++ y :: b ∧ (∀ x ∈ a, ¬ 0 < x.f0) ∧ 0 < y.f0 ∧ l2.map (·.1) = a ++ b ∧ e = .returned (.tuple #[.int .i64 y.f0, .slice A a.length cc]) ∧ a.length ≤ cc ∧
    LaneAt own' w' g rm false l2 c cap s r ∧ Upd (· = 1) own w own' w' ∧ StC k33 own' w' A a.length (a.map (·.f1)) := by
  rcases h with ⟨hno, -, -⟩ | h
  · exact absurd (fun x hx => by obtain ⟨p, hp, rfl⟩ := List.mem_map.1 hx; exact hno p hp) hs
  · exact h
def StepTo (own : Nat → Nat) (w : World) (g b : Nat) (rm : Int) (tot : Nat) (w' : World) : Prop := ∃ own', Hid (Upd (1 ≤ ·) own w own' w') ∧ Hid (Both own' w' g b rm tot)
set_option maxRecDepth 100000 in
set_option maxHeartbeats 8000000 in
theorem step21_put (own : Nat → Nat) (w : World) (g b : Nat) (rm : Int) (l : List Pr) (c cap s r : Nat) (h : LaneAt own w g rm false l c cap s r) (q : List Pq) (ms : List Int) (oR oM : Nat) (Ar Am : Option Addr) (cr cm : Nat) (hb : BookAt own w b q ms oR oM Ar cr Am cm) (hR : Rel (l.map (·.1)) (q.map (·.1)) ms oR oM) (hI : Inv (l.map (·.1))) (hB : Bnd rm (l.map (·.1))) (h0 : 0 ≤ rm) (hq9 : q.length ≤ 10000) (hm9 : ms.length ≤ 10000) (fb : Bool) (A2 : Option Addr) (c2 : Nat) (A3 : Option Addr) (n3 c3 : Nat) (ys : List S35) (lys : List Pr) (hE : lys.map (·.1) = ys) (hC : StC (pk k35 own w) own w A2 ys.length lys) (hlen : q.length + ms.length + ys.length ≤ 10000) (hp : ∀ y ∈ ys, partsR y.f1 ≤ 100000) :
    Calls Try.prog 21 #[.pointer (some ⟨b, 0, none⟩), .pointer (some ⟨g, 0, none⟩), .int .i64 rm, .agg #[.int .i64 1, .bool fb, .slice A2 ys.length c2, .slice A3 n3 c3]] w fun e w' => e = .returned (.bool true) ∧ StepTo own w g b rm (q.length + ms.length + ys.length) w' := by
  obtain ⟨n2, hn⟩ : ∃ n2, n2 = ys.length := ⟨_, rfl⟩
  have Hn := Lib.hid hn
  have HYE := Lib.hid hE
  have HP := Lib.hid hp
  have Hlen := Lib.hid hlen
  rw [← hn] at hC ⊢
  have HL := Lib.hid (h.upd (S := fun _ => False) (by decide) (by decide) (Upd.alloc (.cells #[.int .i64 1, .bool fb, .slice A2 n2 c2, .slice A3 n3 c3] 60) 5))
  have HB := Lib.hid (hb.upd (S := fun _ => False) (by decide) (by decide) (by decide) (by decide) (Upd.alloc (.cells #[.int .i64 1, .bool fb, .slice A2 n2 c2, .slice A3 n3 c3] 60) 5))
  have HU1 : Hid (Upd (1 ≤ ·) own w (fresh own w 5) (w.alloc (.cells #[.int .i64 1, .bool fb, .slice A2 n2 c2, .slice A3 n3 c3] 60))) := Lib.hid (Upd.alloc _ _)
  have HE := Lib.hid (blk_new w (.cells #[.int .i64 1, .bool fb, .slice A2 n2 c2, .slice A3 n3 c3] 60))
  have Ho5 : Hid (fresh own w 5 w.heap.size = 5) := Lib.hid (fresh_new (Nat.le_refl _))
  have HR := Lib.hid hR
  have HI := Lib.hid hI
  have HBD := Lib.hid hB
  have H9 := Lib.hid hq9
  have H9' := Lib.hid hm9
  have Hll : Hid (l.length ≤ 20000) := Lib.hid (by have h1 := hR.len (fun x hx => (hI x hx).2.1); rw [List.length_map, List.length_map] at h1; omega)
  have HC := Lib.hid (StC_pk_upd hC (S := fun _ => False) (by decide) (Upd.alloc (.cells #[.int .i64 1, .bool fb, .slice A2 n2 c2, .slice A3 n3 c3] 60) 5))
  clear h hb hR hI hB hC hE hp hlen hn
  go_enter Try.func21, Try.ntmps21
  go_upto_region 1 with (fail)
  generalize w.alloc (.cells #[.int .i64 1, .bool fb, .slice A2 n2 c2, .slice A3 n3 c3] 60) = w1 at *
  generalize fresh own w 5 = own1 at *
  generalize w.heap.size = bx at *
  have y0 : w1.cell? ⟨bx, 0, none⟩ = some (.int .i64 1) := blk_at HE.out 0 rfl
  have y2 : w1.cell? ⟨bx, 2, none⟩ = some (.slice A2 n2 c2) := blk_at HE.out 2 rfl
  obtain ⟨nP, eP, zs, hP⟩ : ∃ nP eP zs, putP rm (l.map (·.1)) ys = (nP, eP, zs) := ⟨_, _, _, rfl⟩
  have HPP := Lib.hid hP
  have hput := put8 own1 w1 g c cap s r rm l HL.out ys A2 c2 (by have h1 := StC_pk HC.out; rw [HYE.out] at h1; rw [← Hn.out]; exact h1) (by have h1 := Hll.out; have h2 := Hlen.out; omega) HP.out
  rw [← Hn.out] at hput
  have HPUT := Lib.hid hput
  clear hput hP
  go_upto_region 4 with (first
    | (go_at_call 8; refine HPUT.out.mono ?_; intro e w2 hq; obtain ⟨l2, hl2, he, own2, c2', cap2, s2, r2, hL2, hU2⟩ := hq
       rw [HPP.out] at hl2 he
       simp only [] at hl2 he
       subst he
       have HL2 := Lib.hid hL2
       have HU2 := Lib.hid hU2
       have Hl2 := Lib.hid hl2
       clear hl2 hL2 hU2))
  have HE2 := Lib.hid (HU2.out.blk HE.out (by rw [Ho5.out]; decide))
  have HB2 := Lib.hid (HB.out.upd (S := (· = 1)) (by decide) (by decide) (by decide) (by decide) HU2.out)
  have HC2 := Lib.hid (StC_pk_upd HC.out (S := (· = 1)) (by decide) HU2.out)
  clear y0 y2
  have y2 : w2.cell? ⟨bx, 2, none⟩ = some (.slice A2 n2 c2) := blk_at HE2.out 2 rfl
  have h32 := put32 own2 w2 b q ms oR oM Ar Am cr cm HB2.out H9.out H9'.out rm (l.map (·.1)) ys lys A2 c2 HYE.out (by rw [← Hn.out]; exact HC2.out) HR.out Hlen.out
  rw [HPP.out, ← Hn.out] at h32
  simp only [] at h32
  have H32 := Lib.hid h32
  clear h32 HPUT HC HL
  go_wp2_with (first
    | (go_at_call 32; refine H32.out.mono ?_; rintro e w3 ⟨rfl, own3, q3, ms3, Ar3, cr3, Am3, cm3, HB3, HU3, HR3, h3⟩))
  go_ret
  have hzs : zs = (putP rm (l.map (·.1)) ys).2.2 := by rw [HPP.out]
  refine ⟨rfl, own3, Lib.hid ((HU1.out.then (HU2.out.mono (fun t h => by omega))).then (HU3.out.mono (fun t h => by omega))), Lib.hid ⟨l2, c2', cap2, s2, r2, q3, ms3, oR, oM, Ar3, cr3, Am3, cm3, HL2.out.upd (S := (2 ≤ ·)) (by decide) (by decide) HU3.out, HB3.out, ?_, ?_, ?_, h3⟩⟩
  · rw [Hl2.out]; exact HR3.out
  · rw [Hl2.out, hzs]
    intro x hx
    rcases (putP_out rm ys (l.map (·.1))).1 x hx with h1 | ⟨y, hy, rfl, hny⟩
    · exact HI.out x h1
    · exact ⟨cop_cop y, by rw [cop_f0]; omega, Nat.le_trans (partsR_cop y) (HP.out y hy)⟩
  · rw [Hl2.out, hzs]
    exact putP_bnd rm ys (l.map (·.1)) HBD.out
set_option maxRecDepth 100000 in
set_option maxHeartbeats 8000000 in
theorem step21_take0 (own : Nat → Nat) (w : World) (g b : Nat) (rm : Int) (l : List Pr) (c cap s r : Nat) (h : LaneAt own w g rm false l c cap s r) (q : List Pq) (ms : List Int) (oR oM : Nat) (Ar Am : Option Addr) (cr cm : Nat) (hb : BookAt own w b q ms oR oM Ar cr Am cm) (hR : Rel (l.map (·.1)) (q.map (·.1)) ms oR oM) (hI : Inv (l.map (·.1))) (hB : Bnd rm (l.map (·.1))) (h0 : 0 ≤ rm) (hq9 : q.length ≤ 10000) (hm9 : ms.length ≤ 10000) (fb : Bool) (A2 : Option Addr) (n2 c2 : Nat) (A3 : Option Addr) (n3 c3 : Nat) (hl : l = []) :
    Calls Try.prog 21 #[.pointer (some ⟨b, 0, none⟩), .pointer (some ⟨g, 0, none⟩), .int .i64 rm, .agg #[.int .i64 2, .bool fb, .slice A2 n2 c2, .slice A3 n3 c3]] w fun e w' => e = .returned (.bool true) ∧ StepTo own w g b rm (q.length + ms.length) w' := by
  have HL := Lib.hid (h.upd (S := fun _ => False) (by decide) (by decide) (Upd.alloc (.cells #[.int .i64 2, .bool fb, .slice A2 n2 c2, .slice A3 n3 c3] 60) 5))
  have HB := Lib.hid (hb.upd (S := fun _ => False) (by decide) (by decide) (by decide) (by decide) (Upd.alloc (.cells #[.int .i64 2, .bool fb, .slice A2 n2 c2, .slice A3 n3 c3] 60) 5))
  have HU1 : Hid (Upd (1 ≤ ·) own w (fresh own w 5) (w.alloc (.cells #[.int .i64 2, .bool fb, .slice A2 n2 c2, .slice A3 n3 c3] 60))) := Lib.hid (Upd.alloc _ _)
  have HE := Lib.hid (blk_new w (.cells #[.int .i64 2, .bool fb, .slice A2 n2 c2, .slice A3 n3 c3] 60))
  have Ho5 : Hid (fresh own w 5 w.heap.size = 5) := Lib.hid (fresh_new (Nat.le_refl _))
  have HR := Lib.hid hR
  have HI := Lib.hid hI
  have HBD := Lib.hid hB
  have H9 := Lib.hid hq9
  have H9' := Lib.hid hm9
  have Hll : Hid (l.length ≤ 20000) := Lib.hid (by have h1 := hR.len (fun x hx => (hI x hx).2.1); rw [List.length_map, List.length_map] at h1; omega)
  have Hl := Lib.hid hl
  clear h hb hR hI hB hl
  go_enter Try.func21, Try.ntmps21
  go_upto_region 1 with (fail)
  generalize w.alloc (.cells #[.int .i64 2, .bool fb, .slice A2 n2 c2, .slice A3 n3 c3] 60) = w1 at *
  generalize fresh own w 5 = own1 at *
  generalize w.heap.size = bx at *
  have y0 : w1.cell? ⟨bx, 0, none⟩ = some (.int .i64 2) := blk_at HE.out 0 rfl
  have y2 : w1.cell? ⟨bx, 2, none⟩ = some (.slice A2 n2 c2) := blk_at HE.out 2 rfl
  have hL0 := HL.out
  rw [Hl.out] at hL0
  have HT := Lib.hid (take12_none own1 w1 g c cap s r rm false hL0)
  have hem := HR.out
  rw [Hl.out] at hem
  have Hem := Lib.hid hem.empty
  clear hL0 hem
  go_upto_region 8 with (first
    | (go_at_call 12; refine HT.out.mono ?_; rintro e w2 ⟨rfl, HB2⟩))
  have HU3 : Hid (Upd (fun _ => False) own1 w1 own1 (w2.alloc (.cells #[.int .i64 0, .string ⟨#[]⟩, .int .i64 0, .int .i64 0, .string ⟨#[]⟩, .slice none 0 0, .slice none 0 0] 35))) := Lib.hid ((Upd.of_below' HB2.out (fun _ _ => rfl)).then (Upd.box _))
  clear HT y0 y2
  generalize w2.alloc (.cells #[.int .i64 0, .string ⟨#[]⟩, .int .i64 0, .int .i64 0, .string ⟨#[]⟩, .slice none 0 0, .slice none 0 0] 35) = w3 at *
  have HB3 := Lib.hid (HB.out.upd (S := fun _ => False) (by decide) (by decide) (by decide) (by decide) HU3.out)
  have HL3 := Lib.hid (HL.out.upd (S := fun _ => False) (by decide) (by decide) HU3.out)
  have HHELD : Hid (∀ W : World, PLift (Below w3.heap.size w3 W) → Calls Try.prog 33 #[.pointer (some ⟨b, 0, none⟩)] W fun e w' => e = .returned (.int .i64 0) ∧ Hid (Below W.heap.size W w')) := Lib.hid (fun W hW => by
    have := held33 own1 W b q ms oR oM Ar Am cr cm (HB3.out.upd (S := fun _ => False) (by decide) (by decide) (by decide) (by decide) (Upd.of_below' hW.down (fun _ _ => rfl))) H9.out HR.out.hR'
    rw [Hem.out.1, List.length_map, Nat.sub_self] at this
    exact this)
  have v1 : w3.cell? ⟨b, 1, none⟩ = some (.slice Am ms.length cm) := blk_at HB3.out.hb 1 rfl
  have v3 : w3.cell? ⟨b, 3, none⟩ = some (.int .i64 ms.length) := by
    have := blk_at HB3.out.hb 3 (u := .int .i64 oM) rfl
    rw [Hem.out.2] at this
    exact this
  obtain ⟨n, hn⟩ : ∃ n, n = ms.length := ⟨_, rfl⟩
  rw [← hn] at v1 v3
  clear hn hq9 hm9
  refine start_ (n := 16) (S := (fun w' => w'.cell? ⟨b, 1, none⟩ = some (.slice Am n cm) ∧ w'.cell? ⟨b, 3, none⟩ = some (.int .i64 n))) (ds := []) #[false, false, false, false, false, false, false, false, false, false, false, false, false, false, false, false] (by kernel_rfl) rfl rfl ⟨(show w3.drew.cell? _ = _ from v1), (show w3.drew.cell? _ = _ from v3)⟩ (fun hHeld => ?_)
  have HBo : Hid (Below w3.heap.size w3 w3.drew) := Lib.hid (Below.refl _ _).drew
  generalize w3.drew = W at hHeld HBo ⊢
  refine pure_ (i := 0) (N := some 43) (v := ?_) (a' := ?_) #[true, false, false, false, false, false, false, false, false, false, false, false, false, false, false, false] rfl rfl (by kernel_rfl) (fun _ _ _ h => h) (Or.inl ⟨by rfl, ?_⟩) ?_ ?_
  rotate_left
  · intro w'
    go_simp
    with_reducible rfl
  rotate_left
  · simp only [Act.put, List.setIfInBounds_toArray, List.set_cons_zero, List.set_cons_succ]
    rfl
  refine one_ (i := 1) (N := some 44) #[true, true, false, false, false, false, false, false, false, false, false, false, false, false, false, false] rfl rfl (by kernel_rfl) (by decide) (fun K hK => ?_)
  refine goes_ Try.func33 (by kernel_rfl) rfl #[.pointer (some ⟨b, 0, none⟩)] (by rfl) rfl rfl (by simp only [List.map_toArray, List.map_cons, List.map_nil]; rfl) ?_
  refine (HHELD.out W ⟨HBo.out⟩).mono ?_
  rintro e w4 ⟨rfl, HB4a⟩
  have HB4 : Hid (Below w3.heap.size w3 w4) := Lib.hid (HBo.out.trans (HB4a.out.mono HBo.out.size))
  refine ⟨_, rfl, ?_⟩
  refine hK.out _ _ ⟨pw_cell_below HB4a.out hHeld.1, pw_cell_below HB4a.out hHeld.2⟩ (fun hHeld => ?_)
  clear hK K
  refine norm_ (a' := ?_) ?_ ?_
  rotate_left
  · show Act.put _ (some 44) _ = _
    simp only [Act.put, List.setIfInBounds_toArray, List.set_cons_zero, List.set_cons_succ]
    rfl
  refine pure_ (i := 2) (N := some 45) (v := ?_) (a' := ?_) #[true, true, true, false, false, false, false, false, false, false, false, false, false, false, false, false] rfl rfl (by kernel_rfl) (fun _ _ _ h => h) (Or.inl ⟨by rfl, ?_⟩) ?_ ?_
  rotate_left
  · intro w'
    go_simp
    with_reducible rfl
  rotate_left
  · simp only [Act.put, List.setIfInBounds_toArray, List.set_cons_zero, List.set_cons_succ]
    rfl
  refine pure_ (i := 3) (N := some 46) (v := ?_) (a' := ?_) #[true, true, true, true, false, false, false, false, false, false, false, false, false, false, false, false] rfl rfl (by kernel_rfl) (fun _ _ _ h => h) (Or.inl ⟨by rfl, ?_⟩) ?_ ?_
  rotate_left
  · intro w'
    go_simp
    with_reducible rfl
  rotate_left
  · simp only [Act.put, List.setIfInBounds_toArray, List.set_cons_zero, List.set_cons_succ]
    rfl
  refine pure_ (i := 4) (N := some 47) (v := ?_) (a' := ?_) #[true, true, true, true, true, false, false, false, false, false, false, false, false, false, false, false] rfl rfl (by kernel_rfl) (fun _ _ _ h => h) (Or.inl ⟨by rfl, ?_⟩) ?_ ?_
  rotate_left
  · intro w'
    go_simp
    with_reducible rfl
  rotate_left
  · simp only [Act.put, List.setIfInBounds_toArray, List.set_cons_zero, List.set_cons_succ]
    rfl
  refine pure_ (i := 5) (N := some 48) (v := ?_) (a' := ?_) #[true, true, true, true, true, true, false, false, false, false, false, false, false, false, false, false] rfl rfl (by kernel_rfl) (fun _ _ _ h => h) (Or.inl ⟨by rfl, ?_⟩) ?_ ?_
  rotate_left
  · intro w'
    go_simp
    with_reducible rfl
  rotate_left
  · simp only [Act.put, List.setIfInBounds_toArray, List.set_cons_zero, List.set_cons_succ]
    rfl
  refine pure_ (i := 6) (N := some 49) (v := ?_) (a' := ?_) #[true, true, true, true, true, true, true, false, false, false, false, false, false, false, false, false] rfl rfl (by kernel_rfl) (fun _ _ _ h => h) (Or.inl ⟨by rfl, ?_⟩) ?_ ?_
  rotate_left
  · intro w'
    go_simp
    with_reducible rfl
  rotate_left
  · simp only [Act.put, List.setIfInBounds_toArray, List.set_cons_zero, List.set_cons_succ]
    rfl
  refine take_ (i := 7) (N := some 50) (v := ?_) (a' := ?_) #[true, true, true, true, true, true, true, true, false, false, false, false, false, false, false, false] rfl rfl (by kernel_rfl) (fun _ _ _ h => h) (Or.inl ⟨by rfl, ?_⟩) hHeld ?_ ?_
  rotate_left
  · rintro w' ⟨s0, s1⟩
    go_simp
    with_reducible rfl
  rotate_left
  · simp only [Act.put, List.setIfInBounds_toArray, List.set_cons_zero, List.set_cons_succ]
    rfl
  refine pure_ (i := 8) (N := some 51) (v := ?_) (a' := ?_) #[true, true, true, true, true, true, true, true, true, false, false, false, false, false, false, false] rfl rfl (by kernel_rfl) (fun _ _ _ h => h) (Or.inl ⟨by rfl, ?_⟩) ?_ ?_
  rotate_left
  · intro w'
    go_simp
    with_reducible rfl
  rotate_left
  · simp only [Act.put, List.setIfInBounds_toArray, List.set_cons_zero, List.set_cons_succ]
    rfl
  refine pure_ (i := 9) (N := some 52) (v := ?_) (a' := ?_) #[true, true, true, true, true, true, true, true, true, true, false, false, false, false, false, false] rfl rfl (by kernel_rfl) (fun _ _ _ h => h) (Or.inl ⟨by rfl, ?_⟩) ?_ ?_
  rotate_left
  · intro w'
    go_simp
    with_reducible rfl
  rotate_left
  · simp only [Act.put, List.setIfInBounds_toArray, List.set_cons_zero, List.set_cons_succ]
    rfl
  refine pure_ (i := 10) (N := some 53) (v := ?_) (a' := ?_) #[true, true, true, true, true, true, true, true, true, true, true, false, false, false, false, false] rfl rfl (by kernel_rfl) (fun _ _ _ h => h) (Or.inl ⟨by rfl, ?_⟩) ?_ ?_
  rotate_left
  · intro w'
    go_simp
    with_reducible rfl
  rotate_left
  · simp only [Act.put, List.setIfInBounds_toArray, List.set_cons_zero, List.set_cons_succ]
    rfl
  refine take_ (i := 11) (N := some 54) (v := ?_) (a' := ?_) #[true, true, true, true, true, true, true, true, true, true, true, true, false, false, false, false] rfl rfl (by kernel_rfl) (fun _ _ _ h => h) (Or.inl ⟨by rfl, ?_⟩) hHeld ?_ ?_
  rotate_left
  · rintro w' ⟨s0, s1⟩
    go_simp
    with_reducible rfl
  rotate_left
  · simp only [Act.put, List.setIfInBounds_toArray, List.set_cons_zero, List.set_cons_succ]
    rfl
  refine pure_ (i := 12) (N := some 55) (v := ?_) (a' := ?_) #[true, true, true, true, true, true, true, true, true, true, true, true, true, false, false, false] rfl rfl (by kernel_rfl) (fun _ _ _ h => h) (Or.inl ⟨by rfl, ?_⟩) ?_ ?_
  rotate_left
  · intro w'
    go_simp
    with_reducible rfl
  rotate_left
  · simp only [Act.put, List.setIfInBounds_toArray, List.set_cons_zero, List.set_cons_succ]
    rfl
  refine pure_ (i := 13) (N := some 56) (v := ?_) (a' := ?_) #[true, true, true, true, true, true, true, true, true, true, true, true, true, true, false, false] rfl rfl (by kernel_rfl) (fun _ _ _ h => h) (Or.inl ⟨by rfl, ?_⟩) ?_ ?_
  rotate_left
  · intro w'
    go_simp
    with_reducible rfl
  rotate_left
  · simp only [Act.put, List.setIfInBounds_toArray, List.set_cons_zero, List.set_cons_succ]
    rfl
  refine pure_ (i := 14) (N := some 57) (v := ?_) (a' := ?_) #[true, true, true, true, true, true, true, true, true, true, true, true, true, true, true, false] rfl rfl (by kernel_rfl) (fun _ _ _ h => h) (Or.inl ⟨by rfl, ?_⟩) ?_ ?_
  rotate_left
  · intro w'
    go_simp
    with_reducible rfl
  rotate_left
  · simp only [Act.put, List.setIfInBounds_toArray, List.set_cons_zero, List.set_cons_succ]
    rfl
  refine pure_ (i := 15) (N := some 8) (v := ?_) (a' := ?_) #[true, true, true, true, true, true, true, true, true, true, true, true, true, true, true, true] rfl rfl (by kernel_rfl) (fun _ _ _ h => h) (Or.inl ⟨by rfl, ?_⟩) ?_ ?_
  rotate_left
  · intro w'
    go_simp
    with_reducible rfl
  rotate_left
  · simp only [Act.put, List.setIfInBounds_toArray, List.set_cons_zero, List.set_cons_succ]
    rfl
  refine done_ (by kernel_rfl) ?_
  clear hHeld
  go_wp2_with (fail)
  go_ret
  have hu4 : Upd (fun _ => False) own1 w3 own1 w4 := Upd.of_below' HB4.out (fun _ _ => rfl)
  exact ⟨rfl, own1, Lib.hid ((HU1.out.then (HU3.out.mono (fun _ h => h.elim))).then (hu4.mono (fun _ h => h.elim))), Lib.hid ⟨l, c, cap, s, r, q, ms, oR, oM, Ar, cr, Am, cm, HL3.out.upd (by decide) (by decide) hu4, HB3.out.upd (by decide) (by decide) (by decide) (by decide) hu4, HR.out, HI.out, HBD.out, Nat.le_refl _⟩⟩
set_option maxRecDepth 100000 in
set_option maxHeartbeats 8000000 in
theorem step21_take_r (own : Nat → Nat) (w : World) (g b : Nat) (rm : Int) (l : List Pr) (c cap s r : Nat) (h : LaneAt own w g rm false l c cap s r) (q : List Pq) (ms : List Int) (oR oM : Nat) (Ar Am : Option Addr) (cr cm : Nat) (hb : BookAt own w b q ms oR oM Ar cr Am cm) (hR : Rel (l.map (·.1)) (q.map (·.1)) ms oR oM) (hI : Inv (l.map (·.1))) (hB : Bnd rm (l.map (·.1))) (h0 : 0 ≤ rm) (hq9 : q.length ≤ 10000) (hm9 : ms.length ≤ 10000) (fb : Bool) (A2 : Option Addr) (n2 c2 : Nat) (A3 : Option Addr) (n3 c3 : Nat) (x : S35) (D5 : Option Addr) (e5' : Nat) (D6 : Option Addr) (e6' : Nat) (l' : List Pr) (hl : l = (x, [.int .i64 x.f0, .string x.f1.f0, .int .i64 x.f1.f1.f0, .int .i64 x.f1.f1.f1, .string x.f1.f1.f2, .slice D5 x.f1.f1.f3.length e5', .slice D6 x.f1.f2.length e6']) :: l') (hx0 : x.f0 = 0) :
    Calls Try.prog 21 #[.pointer (some ⟨b, 0, none⟩), .pointer (some ⟨g, 0, none⟩), .int .i64 rm, .agg #[.int .i64 2, .bool fb, .slice A2 n2 c2, .slice A3 n3 c3]] w fun e w' => e = .returned (.bool true) ∧ StepTo own w g b rm (q.length + ms.length) w' := by
  have HL := Lib.hid (h.upd (S := fun _ => False) (by decide) (by decide) (Upd.alloc (.cells #[.int .i64 2, .bool fb, .slice A2 n2 c2, .slice A3 n3 c3] 60) 5))
  have HB := Lib.hid (hb.upd (S := fun _ => False) (by decide) (by decide) (by decide) (by decide) (Upd.alloc (.cells #[.int .i64 2, .bool fb, .slice A2 n2 c2, .slice A3 n3 c3] 60) 5))
  have HU1 : Hid (Upd (1 ≤ ·) own w (fresh own w 5) (w.alloc (.cells #[.int .i64 2, .bool fb, .slice A2 n2 c2, .slice A3 n3 c3] 60))) := Lib.hid (Upd.alloc _ _)
  have HE := Lib.hid (blk_new w (.cells #[.int .i64 2, .bool fb, .slice A2 n2 c2, .slice A3 n3 c3] 60))
  have Ho5 : Hid (fresh own w 5 w.heap.size = 5) := Lib.hid (fresh_new (Nat.le_refl _))
  have HR := Lib.hid hR
  have HI := Lib.hid hI
  have HBD := Lib.hid hB
  have H9 := Lib.hid hq9
  have H9' := Lib.hid hm9
  have Hll : Hid (l.length ≤ 20000) := Lib.hid (by have h1 := hR.len (fun x hx => (hI x hx).2.1); rw [List.length_map, List.length_map] at h1; omega)
  have Hl := Lib.hid hl
  have Hx0 := Lib.hid hx0
  clear h hb hR hI hB hl hx0
  go_enter Try.func21, Try.ntmps21
  go_upto_region 1 with (fail)
  generalize w.alloc (.cells #[.int .i64 2, .bool fb, .slice A2 n2 c2, .slice A3 n3 c3] 60) = w1 at *
  generalize fresh own w 5 = own1 at *
  generalize w.heap.size = bx at *
  have y0 : w1.cell? ⟨bx, 0, none⟩ = some (.int .i64 2) := blk_at HE.out 0 rfl
  have y2 : w1.cell? ⟨bx, 2, none⟩ = some (.slice A2 n2 c2) := blk_at HE.out 2 rfl
  have hL0 := HL.out
  rw [Hl.out] at hL0
  have HSX := Lib.hid (hL0.st (x, [.int .i64 x.f0, .string x.f1.f0, .int .i64 x.f1.f1.f0, .int .i64 x.f1.f1.f1, .string x.f1.f1.f2, .slice D5 x.f1.f1.f3.length e5', .slice D6 x.f1.f2.length e6']) (by simp))
  have HT := Lib.hid (take12_some own1 w1 g c cap s r rm (x, [.int .i64 x.f0, .string x.f1.f0, .int .i64 x.f1.f1.f0, .int .i64 x.f1.f1.f1, .string x.f1.f1.f2, .slice D5 x.f1.f1.f3.length e5', .slice D6 x.f1.f2.length e6']) l' hL0 (by have := Hll.out; rw [Hl.out] at this; simp at this ⊢; omega))
  have hrel := HR.out
  rw [Hl.out, List.map_cons] at hrel
  have htk := hrel.takeR Hx0.out
  have Htk := Lib.hid htk
  clear hL0 hrel htk
  go_upto_region 7 with (first
    | (go_at_call 12; refine HT.out.mono ?_; rintro e w2 ⟨rfl, own2, c2', cap2, s2, r2, hL2, hU2⟩
       have HL2 := Lib.hid hL2
       have HU2 := Lib.hid hU2
       clear hL2 hU2))
  have HUb : Hid (Upd (fun _ => False) own2 w2 own2 (w2.alloc (.cells #[.int .i64 x.f0, .string x.f1.f0, .int .i64 x.f1.f1.f0, .int .i64 x.f1.f1.f1, .string x.f1.f1.f2, .slice D5 x.f1.f1.f3.length e5', .slice D6 x.f1.f2.length e6'] 35))) := Lib.hid (Upd.box _)
  have HEX := Lib.hid (blk_new w2 (.cells #[.int .i64 x.f0, .string x.f1.f0, .int .i64 x.f1.f1.f0, .int .i64 x.f1.f1.f1, .string x.f1.f1.f2, .slice D5 x.f1.f1.f3.length e5', .slice D6 x.f1.f2.length e6'] 35))
  clear HT y0 y2
  generalize w2.alloc (.cells #[.int .i64 x.f0, .string x.f1.f0, .int .i64 x.f1.f1.f0, .int .i64 x.f1.f1.f1, .string x.f1.f1.f2, .slice D5 x.f1.f1.f3.length e5', .slice D6 x.f1.f2.length e6'] 35) = w3 at *
  generalize w2.heap.size = b3 at *
  have HU3 : Hid (Upd (· = 1) own1 w1 own2 w3) := Lib.hid (HU2.out.then (HUb.out.mono (fun _ h => h.elim)))
  have HB3 := Lib.hid (HB.out.upd (S := (· = 1)) (by decide) (by decide) (by decide) (by decide) HU3.out)
  have HL3 := Lib.hid (HL2.out.upd (S := fun _ => False) (by decide) (by decide) HUb.out)
  have HSX3 := Lib.hid (HSX.out.upd (S := (· = 1)) (by decide) HU3.out)
  have HOUT := Lib.hid (out22_r own2 w3 b q ms oR oM Ar Am cr cm HB3.out H9.out H9'.out x D5 e5' D6 e6' HSX3.out Hx0.out (by obtain ⟨h1, -⟩ := Htk.out.1; rw [List.length_map] at h1; exact h1) (by obtain ⟨h1, h2⟩ := Htk.out.1; rw [List.getElem_map] at h2; exact h2) (HI.out x (by rw [Hl.out]; simp)).2.2)
  have x0 : w3.cell? ⟨b3, 0, none⟩ = some (.int .i64 x.f0) := blk_at HEX.out 0 rfl
  have x1 : w3.cell? ⟨b3, 1, none⟩ = some (.string x.f1.f0) := blk_at HEX.out 1 rfl
  have x2 : w3.cell? ⟨b3, 2, none⟩ = some (.int .i64 x.f1.f1.f0) := blk_at HEX.out 2 rfl
  have x3 : w3.cell? ⟨b3, 3, none⟩ = some (.int .i64 x.f1.f1.f1) := blk_at HEX.out 3 rfl
  have x4 : w3.cell? ⟨b3, 4, none⟩ = some (.string x.f1.f1.f2) := blk_at HEX.out 4 rfl
  have x5 : w3.cell? ⟨b3, 5, none⟩ = some (.slice D5 x.f1.f1.f3.length e5') := blk_at HEX.out 5 rfl
  have x6 : w3.cell? ⟨b3, 6, none⟩ = some (.slice D6 x.f1.f2.length e6') := blk_at HEX.out 6 rfl
  go_wp2_with (first
    | (go_at_call 22; refine HOUT.out.mono ?_; rintro e w4 ⟨rfl, HB4, HU4⟩))
  go_ret
  refine ⟨rfl, own2, Lib.hid ((HU1.out.then (HU3.out.mono (fun t h => by omega))).then (HU4.out.mono (fun t h => by omega))), Lib.hid ⟨l', c2', cap2, s2, r2, q, ms, _, _, Ar, cr, Am, cm, HL3.out.upd (S := (2 ≤ ·)) (by decide) (by decide) HU4.out, HB4.out, Htk.out.2, ?_, ?_, Nat.le_refl _⟩⟩
  · intro z hz
    exact HI.out z (by rw [Hl.out, List.map_cons]; exact List.mem_cons_of_mem _ hz)
  · have h1 := HBD.out
    rw [Hl.out, List.map_cons] at h1
    exact h1.tail
set_option maxRecDepth 100000 in
set_option maxHeartbeats 8000000 in
theorem step21_take_m (own : Nat → Nat) (w : World) (g b : Nat) (rm : Int) (l : List Pr) (c cap s r : Nat) (h : LaneAt own w g rm false l c cap s r) (q : List Pq) (ms : List Int) (oR oM : Nat) (Ar Am : Option Addr) (cr cm : Nat) (hb : BookAt own w b q ms oR oM Ar cr Am cm) (hR : Rel (l.map (·.1)) (q.map (·.1)) ms oR oM) (hI : Inv (l.map (·.1))) (hB : Bnd rm (l.map (·.1))) (h0 : 0 ≤ rm) (hq9 : q.length ≤ 10000) (hm9 : ms.length ≤ 10000) (fb : Bool) (A2 : Option Addr) (n2 c2 : Nat) (A3 : Option Addr) (n3 c3 : Nat) (m : Int) (D5 : Option Addr) (e5' : Nat) (D6 : Option Addr) (e6' : Nat) (l' : List Pr) (hl : l = ((⟨m, z33⟩ : S35), [.int .i64 m, .string ⟨#[]⟩, .int .i64 0, .int .i64 0, .string ⟨#[]⟩, .slice D5 0 e5', .slice D6 0 e6']) :: l') (hm0 : 0 < m) :
    Calls Try.prog 21 #[.pointer (some ⟨b, 0, none⟩), .pointer (some ⟨g, 0, none⟩), .int .i64 rm, .agg #[.int .i64 2, .bool fb, .slice A2 n2 c2, .slice A3 n3 c3]] w fun e w' => e = .returned (.bool true) ∧ StepTo own w g b rm (q.length + ms.length) w' := by
  have HL := Lib.hid (h.upd (S := fun _ => False) (by decide) (by decide) (Upd.alloc (.cells #[.int .i64 2, .bool fb, .slice A2 n2 c2, .slice A3 n3 c3] 60) 5))
  have HB := Lib.hid (hb.upd (S := fun _ => False) (by decide) (by decide) (by decide) (by decide) (Upd.alloc (.cells #[.int .i64 2, .bool fb, .slice A2 n2 c2, .slice A3 n3 c3] 60) 5))
  have HU1 : Hid (Upd (1 ≤ ·) own w (fresh own w 5) (w.alloc (.cells #[.int .i64 2, .bool fb, .slice A2 n2 c2, .slice A3 n3 c3] 60))) := Lib.hid (Upd.alloc _ _)
  have HE := Lib.hid (blk_new w (.cells #[.int .i64 2, .bool fb, .slice A2 n2 c2, .slice A3 n3 c3] 60))
  have Ho5 : Hid (fresh own w 5 w.heap.size = 5) := Lib.hid (fresh_new (Nat.le_refl _))
  have HR := Lib.hid hR
  have HI := Lib.hid hI
  have HBD := Lib.hid hB
  have H9 := Lib.hid hq9
  have H9' := Lib.hid hm9
  have Hll : Hid (l.length ≤ 20000) := Lib.hid (by have h1 := hR.len (fun x hx => (hI x hx).2.1); rw [List.length_map, List.length_map] at h1; omega)
  have Hl := Lib.hid hl
  have Hx0 : Hid (0 < (⟨m, z33⟩ : S35).f0) := Lib.hid hm0
  clear h hb hR hI hB hl hm0
  go_enter Try.func21, Try.ntmps21
  go_upto_region 1 with (fail)
  generalize w.alloc (.cells #[.int .i64 2, .bool fb, .slice A2 n2 c2, .slice A3 n3 c3] 60) = w1 at *
  generalize fresh own w 5 = own1 at *
  generalize w.heap.size = bx at *
  have y0 : w1.cell? ⟨bx, 0, none⟩ = some (.int .i64 2) := blk_at HE.out 0 rfl
  have y2 : w1.cell? ⟨bx, 2, none⟩ = some (.slice A2 n2 c2) := blk_at HE.out 2 rfl
  have hL0 := HL.out
  rw [Hl.out] at hL0
  have HSX := Lib.hid (hL0.st ((⟨m, z33⟩ : S35), [.int .i64 m, .string ⟨#[]⟩, .int .i64 0, .int .i64 0, .string ⟨#[]⟩, .slice D5 0 e5', .slice D6 0 e6']) (by simp))
  have HT := Lib.hid (take12_some own1 w1 g c cap s r rm ((⟨m, z33⟩ : S35), [.int .i64 m, .string ⟨#[]⟩, .int .i64 0, .int .i64 0, .string ⟨#[]⟩, .slice D5 0 e5', .slice D6 0 e6']) l' hL0 (by have := Hll.out; rw [Hl.out] at this; simp at this ⊢; omega))
  have hrel := HR.out
  rw [Hl.out, List.map_cons] at hrel
  have htk := hrel.takeM Hx0.out
  have Htk := Lib.hid htk
  clear hL0 hrel htk
  go_upto_region 7 with (first
    | (go_at_call 12; refine HT.out.mono ?_; rintro e w2 ⟨rfl, own2, c2', cap2, s2, r2, hL2, hU2⟩
       have HL2 := Lib.hid hL2
       have HU2 := Lib.hid hU2
       clear hL2 hU2))
  have HUb : Hid (Upd (fun _ => False) own2 w2 own2 (w2.alloc (.cells #[.int .i64 m, .string ⟨#[]⟩, .int .i64 0, .int .i64 0, .string ⟨#[]⟩, .slice D5 0 e5', .slice D6 0 e6'] 35))) := Lib.hid (Upd.box _)
  have HEX := Lib.hid (blk_new w2 (.cells #[.int .i64 m, .string ⟨#[]⟩, .int .i64 0, .int .i64 0, .string ⟨#[]⟩, .slice D5 0 e5', .slice D6 0 e6'] 35))
  clear HT y0 y2
  generalize w2.alloc (.cells #[.int .i64 m, .string ⟨#[]⟩, .int .i64 0, .int .i64 0, .string ⟨#[]⟩, .slice D5 0 e5', .slice D6 0 e6'] 35) = w3 at *
  generalize w2.heap.size = b3 at *
  have HU3 : Hid (Upd (· = 1) own1 w1 own2 w3) := Lib.hid (HU2.out.then (HUb.out.mono (fun _ h => h.elim)))
  have HB3 := Lib.hid (HB.out.upd (S := (· = 1)) (by decide) (by decide) (by decide) (by decide) HU3.out)
  have HL3 := Lib.hid (HL2.out.upd (S := fun _ => False) (by decide) (by decide) HUb.out)
  have HSX3 := Lib.hid (HSX.out.upd (S := (· = 1)) (by decide) HU3.out)
  have HOUT := Lib.hid (out22_m own2 w3 b q ms oR oM Ar Am cr cm HB3.out H9.out H9'.out m D5 e5' D6 e6' HSX3.out Hx0.out Htk.out.1.1 Htk.out.1.2)
  have x0 : w3.cell? ⟨b3, 0, none⟩ = some (.int .i64 m) := blk_at HEX.out 0 rfl
  have x1 : w3.cell? ⟨b3, 1, none⟩ = some (.string ⟨#[]⟩) := blk_at HEX.out 1 rfl
  have x2 : w3.cell? ⟨b3, 2, none⟩ = some (.int .i64 0) := blk_at HEX.out 2 rfl
  have x3 : w3.cell? ⟨b3, 3, none⟩ = some (.int .i64 0) := blk_at HEX.out 3 rfl
  have x4 : w3.cell? ⟨b3, 4, none⟩ = some (.string ⟨#[]⟩) := blk_at HEX.out 4 rfl
  have x5 : w3.cell? ⟨b3, 5, none⟩ = some (.slice D5 0 e5') := blk_at HEX.out 5 rfl
  have x6 : w3.cell? ⟨b3, 6, none⟩ = some (.slice D6 0 e6') := blk_at HEX.out 6 rfl
  go_wp2_with (first
    | (go_at_call 22; refine HOUT.out.mono ?_; rintro e w4 ⟨rfl, HB4, HU4⟩))
  go_ret
  refine ⟨rfl, own2, Lib.hid ((HU1.out.then (HU3.out.mono (fun t h => by omega))).then (HU4.out.mono (fun t h => by omega))), Lib.hid ⟨l', c2', cap2, s2, r2, q, ms, _, _, Ar, cr, Am, cm, HL3.out.upd (S := (2 ≤ ·)) (by decide) (by decide) HU4.out, HB4.out, Htk.out.2, ?_, ?_, Nat.le_refl _⟩⟩
  · intro z hz
    exact HI.out z (by rw [Hl.out, List.map_cons]; exact List.mem_cons_of_mem _ hz)
  · have h1 := HBD.out
    rw [Hl.out, List.map_cons] at h1
    exact h1.tail
set_option maxRecDepth 100000 in
set_option maxHeartbeats 8000000 in
theorem step21_other (own : Nat → Nat) (w : World) (g b : Nat) (rm : Int) (l : List Pr) (c cap s r : Nat) (h : LaneAt own w g rm false l c cap s r) (q : List Pq) (ms : List Int) (oR oM : Nat) (Ar Am : Option Addr) (cr cm : Nat) (hb : BookAt own w b q ms oR oM Ar cr Am cm) (hR : Rel (l.map (·.1)) (q.map (·.1)) ms oR oM) (hI : Inv (l.map (·.1))) (hB : Bnd rm (l.map (·.1))) (h0 : 0 ≤ rm) (hq9 : q.length ≤ 10000) (hm9 : ms.length ≤ 10000) (fb : Bool) (A2 : Option Addr) (n2 c2 : Nat) (A3 : Option Addr) (n3 c3 : Nat) (kd : Int) (n1 : kd ≠ 1) (n2' : kd ≠ 2) (n4 : kd ≠ 4) (n7 : kd ≠ 7) :
    Calls Try.prog 21 #[.pointer (some ⟨b, 0, none⟩), .pointer (some ⟨g, 0, none⟩), .int .i64 rm, .agg #[.int .i64 kd, .bool fb, .slice A2 n2 c2, .slice A3 n3 c3]] w fun e w' => e = .returned (.bool true) ∧ StepTo own w g b rm (q.length + ms.length) w' := by
  have HL := Lib.hid (h.upd (S := fun _ => False) (by decide) (by decide) (Upd.alloc (.cells #[.int .i64 kd, .bool fb, .slice A2 n2 c2, .slice A3 n3 c3] 60) 5))
  have HB := Lib.hid (hb.upd (S := fun _ => False) (by decide) (by decide) (by decide) (by decide) (Upd.alloc (.cells #[.int .i64 kd, .bool fb, .slice A2 n2 c2, .slice A3 n3 c3] 60) 5))
  have HU1 : Hid (Upd (1 ≤ ·) own w (fresh own w 5) (w.alloc (.cells #[.int .i64 kd, .bool fb, .slice A2 n2 c2, .slice A3 n3 c3] 60))) := Lib.hid (Upd.alloc _ _)
  have HE := Lib.hid (blk_new w (.cells #[.int .i64 kd, .bool fb, .slice A2 n2 c2, .slice A3 n3 c3] 60))
  have Ho5 : Hid (fresh own w 5 w.heap.size = 5) := Lib.hid (fresh_new (Nat.le_refl _))
  have HR := Lib.hid hR
  have HI := Lib.hid hI
  have HBD := Lib.hid hB
  have H9 := Lib.hid hq9
  have H9' := Lib.hid hm9
  have Hll : Hid (l.length ≤ 20000) := Lib.hid (by have h1 := hR.len (fun x hx => (hI x hx).2.1); rw [List.length_map, List.length_map] at h1; omega)
  have k1 : (kd == 1) = false := by simp [n1]
  have k2 : (kd == 2) = false := by simp [n2']
  have k4 : (kd == 4) = false := by simp [n4]
  have k7 : (kd == 7) = false := by simp [n7]
  clear h hb hR hI hB
  go_enter Try.func21, Try.ntmps21
  go_upto_region 1 with (fail)
  generalize w.alloc (.cells #[.int .i64 kd, .bool fb, .slice A2 n2 c2, .slice A3 n3 c3] 60) = w1 at *
  generalize fresh own w 5 = own1 at *
  generalize w.heap.size = bx at *
  have y0 : w1.cell? ⟨bx, 0, none⟩ = some (.int .i64 kd) := blk_at HE.out 0 rfl
  have y2 : w1.cell? ⟨bx, 2, none⟩ = some (.slice A2 n2 c2) := blk_at HE.out 2 rfl
  go_wp2_with (fail)
  go_ret
  exact ⟨rfl, own1, HU1, Lib.hid ⟨l, c, cap, s, r, q, ms, oR, oM, Ar, cr, Am, cm, HL.out, HB.out, HR.out, HI.out, HBD.out, Nat.le_refl _⟩⟩
set_option maxRecDepth 100000 in
set_option maxHeartbeats 8000000 in
theorem step21_pull0 (own : Nat → Nat) (w : World) (g b : Nat) (rm : Int) (l : List Pr) (c cap s r : Nat) (h : LaneAt own w g rm false l c cap s r) (q : List Pq) (ms : List Int) (oR oM : Nat) (Ar Am : Option Addr) (cr cm : Nat) (hb : BookAt own w b q ms oR oM Ar cr Am cm) (hR : Rel (l.map (·.1)) (q.map (·.1)) ms oR oM) (hI : Inv (l.map (·.1))) (hB : Bnd rm (l.map (·.1))) (h0 : 0 ≤ rm) (hq9 : q.length ≤ 10000) (hm9 : ms.length ≤ 10000) (fb : Bool) (A2 : Option Addr) (n2 c2 : Nat) (A3 : Option Addr) (n3 c3 : Nat) (hno : ∀ x ∈ l.map (·.1), ¬ 0 < x.f0) :
    Calls Try.prog 21 #[.pointer (some ⟨b, 0, none⟩), .pointer (some ⟨g, 0, none⟩), .int .i64 rm, .agg #[.int .i64 4, .bool fb, .slice A2 n2 c2, .slice A3 n3 c3]] w fun e w' => e = .returned (.bool true) ∧ StepTo own w g b rm (q.length + ms.length) w' := by
  have HL := Lib.hid (h.upd (S := fun _ => False) (by decide) (by decide) (Upd.alloc (.cells #[.int .i64 4, .bool fb, .slice A2 n2 c2, .slice A3 n3 c3] 60) 5))
  have HB := Lib.hid (hb.upd (S := fun _ => False) (by decide) (by decide) (by decide) (by decide) (Upd.alloc (.cells #[.int .i64 4, .bool fb, .slice A2 n2 c2, .slice A3 n3 c3] 60) 5))
  have HU1 : Hid (Upd (1 ≤ ·) own w (fresh own w 5) (w.alloc (.cells #[.int .i64 4, .bool fb, .slice A2 n2 c2, .slice A3 n3 c3] 60))) := Lib.hid (Upd.alloc _ _)
  have HE := Lib.hid (blk_new w (.cells #[.int .i64 4, .bool fb, .slice A2 n2 c2, .slice A3 n3 c3] 60))
  have Ho5 : Hid (fresh own w 5 w.heap.size = 5) := Lib.hid (fresh_new (Nat.le_refl _))
  have HR := Lib.hid hR
  have HI := Lib.hid hI
  have HBD := Lib.hid hB
  have H9 := Lib.hid hq9
  have H9' := Lib.hid hm9
  have Hll : Hid (l.length ≤ 20000) := Lib.hid (by have h1 := hR.len (fun x hx => (hI x hx).2.1); rw [List.length_map, List.length_map] at h1; omega)
  have Hno := Lib.hid hno
  clear h hb hR hI hB hno
  go_enter Try.func21, Try.ntmps21
  go_upto_region 1 with (fail)
  generalize w.alloc (.cells #[.int .i64 4, .bool fb, .slice A2 n2 c2, .slice A3 n3 c3] 60) = w1 at *
  generalize fresh own w 5 = own1 at *
  generalize w.heap.size = bx at *
  have y0 : w1.cell? ⟨bx, 0, none⟩ = some (.int .i64 4) := blk_at HE.out 0 rfl
  have y2 : w1.cell? ⟨bx, 2, none⟩ = some (.slice A2 n2 c2) := blk_at HE.out 2 rfl
  have HPU := Lib.hid (pull10 own1 w1 g c cap s r rm l HL.out (by have := Hll.out; omega) (fun p hp => (HI.out p.1 (List.mem_map_of_mem hp)).2.2) (fun p hp => (HI.out p.1 (List.mem_map_of_mem hp)).1))
  go_upto_region 12 with (first
    | (go_at_call 10; refine HPU.out.mono ?_; intro e w2 hq
       obtain ⟨he, own2, c2', cap2, s2, r2, hL2, hU2⟩ := pull_no hq Hno.out
       subst he
       have HL2 := Lib.hid hL2
       have HU2 := Lib.hid hU2
       clear hq hL2 hU2))
  have HB2 := Lib.hid (HB.out.upd (S := (· = 1)) (by decide) (by decide) (by decide) (by decide) HU2.out)
  have H34 := Lib.hid (pull34_0 own2 w2 b q ms oR oM Ar Am cr cm HB2.out H9.out H9'.out (HR.out.nomarks (fun x hx => by have := Hno.out x hx; omega)))
  clear HPU y0 y2
  go_wp2_with (first
    | (go_at_call 34; refine H34.out.mono ?_; rintro e w3 ⟨rfl, HB3⟩))
  go_ret
  have hu4 : Upd (fun _ => False) own2 w2 own2 w3 := Upd.of_below' HB3.out (fun _ _ => rfl)
  exact ⟨rfl, own2, Lib.hid ((HU1.out.then (HU2.out.mono (fun t h => by omega))).then (hu4.mono (fun _ h => h.elim))), Lib.hid ⟨l, c2', cap2, s2, r2, q, ms, oR, oM, Ar, cr, Am, cm, HL2.out.upd (by decide) (by decide) hu4, HB2.out.upd (by decide) (by decide) (by decide) (by decide) hu4, HR.out, HI.out, HBD.out, Nat.le_refl _⟩⟩
set_option maxRecDepth 100000 in
set_option maxHeartbeats 8000000 in
theorem step21_pull1 (own : Nat → Nat) (w : World) (g b : Nat) (rm : Int) (l : List Pr) (c cap s r : Nat) (h : LaneAt own w g rm false l c cap s r) (q : List Pq) (ms : List Int) (oR oM : Nat) (Ar Am : Option Addr) (cr cm : Nat) (hb : BookAt own w b q ms oR oM Ar cr Am cm) (hR : Rel (l.map (·.1)) (q.map (·.1)) ms oR oM) (hI : Inv (l.map (·.1))) (hB : Bnd rm (l.map (·.1))) (h0 : 0 ≤ rm) (hq9 : q.length ≤ 10000) (hm9 : ms.length ≤ 10000) (fb : Bool) (A2 : Option Addr) (n2 c2 : Nat) (A3 : Option Addr) (n3 c3 : Nat) (hyes : ¬ ∀ x ∈ l.map (·.1), ¬ 0 < x.f0) :
    Calls Try.prog 21 #[.pointer (some ⟨b, 0, none⟩), .pointer (some ⟨g, 0, none⟩), .int .i64 rm, .agg #[.int .i64 4, .bool fb, .slice A2 n2 c2, .slice A3 n3 c3]] w fun e w' => e = .returned (.bool true) ∧ StepTo own w g b rm (q.length + ms.length) w' := by
  have HL := Lib.hid (h.upd (S := fun _ => False) (by decide) (by decide) (Upd.alloc (.cells #[.int .i64 4, .bool fb, .slice A2 n2 c2, .slice A3 n3 c3] 60) 5))
  have HB := Lib.hid (hb.upd (S := fun _ => False) (by decide) (by decide) (by decide) (by decide) (Upd.alloc (.cells #[.int .i64 4, .bool fb, .slice A2 n2 c2, .slice A3 n3 c3] 60) 5))
  have HU1 : Hid (Upd (1 ≤ ·) own w (fresh own w 5) (w.alloc (.cells #[.int .i64 4, .bool fb, .slice A2 n2 c2, .slice A3 n3 c3] 60))) := Lib.hid (Upd.alloc _ _)
  have HE := Lib.hid (blk_new w (.cells #[.int .i64 4, .bool fb, .slice A2 n2 c2, .slice A3 n3 c3] 60))
  have Ho5 : Hid (fresh own w 5 w.heap.size = 5) := Lib.hid (fresh_new (Nat.le_refl _))
  have HR := Lib.hid hR
  have HI := Lib.hid hI
  have HBD := Lib.hid hB
  have H9 := Lib.hid hq9
  have H9' := Lib.hid hm9
  have Hll : Hid (l.length ≤ 20000) := Lib.hid (by have h1 := hR.len (fun x hx => (hI x hx).2.1); rw [List.length_map, List.length_map] at h1; omega)
  have Hyes := Lib.hid hyes
  clear h hb hR hI hB hyes
  go_enter Try.func21, Try.ntmps21
  go_upto_region 1 with (fail)
  generalize w.alloc (.cells #[.int .i64 4, .bool fb, .slice A2 n2 c2, .slice A3 n3 c3] 60) = w1 at *
  generalize fresh own w 5 = own1 at *
  generalize w.heap.size = bx at *
  have y0 : w1.cell? ⟨bx, 0, none⟩ = some (.int .i64 4) := blk_at HE.out 0 rfl
  have y2 : w1.cell? ⟨bx, 2, none⟩ = some (.slice A2 n2 c2) := blk_at HE.out 2 rfl
  have HPU := Lib.hid (pull10 own1 w1 g c cap s r rm l HL.out (by have := Hll.out; omega) (fun p hp => (HI.out p.1 (List.mem_map_of_mem hp)).2.2) (fun p hp => (HI.out p.1 (List.mem_map_of_mem hp)).1))
  go_upto_region 12 with (first
    | (go_at_call 10; refine HPU.out.mono ?_; intro e w2 hq
       obtain ⟨a, y, bb, l2, A, cc, own2, c2', cap2, s2, r2, ha, hna, hy, hl2, he, hcc, hL2, hU2, hS2⟩ := pull_yes hq Hyes.out
       obtain ⟨ka, hka⟩ : ∃ ka, ka = a.length := ⟨_, rfl⟩
       rw [← hka] at he
       subst he
       have HL2 := Lib.hid hL2
       have HU2 := Lib.hid hU2
       have HS2 := Lib.hid hS2
       have Hka := Lib.hid hka
       have Ha := Lib.hid ha
       have Hna := Lib.hid hna
       have Hy := Lib.hid hy
       have Hl2 := Lib.hid hl2
       have Hcc := Lib.hid hcc
       clear hq hL2 hU2 hka ha hna hy hl2 hcc hS2))
  have HB2 := Lib.hid (HB.out.upd (S := (· = 1)) (by decide) (by decide) (by decide) (by decide) HU2.out)
  have hRl := HR.out
  rw [Ha.out] at hRl
  obtain ⟨⟨h2, h3⟩, h4, h5, h6⟩ := hRl.pull (fun x hx => by have := Hna.out x hx; omega) (fun x hx => (HI.out x (by rw [Ha.out]; simp [hx])).2.1) Hy.out
  have H6 := Lib.hid h6
  have h34 := pull34_m own2 w2 b q ms oR oM Ar Am cr cm HB2.out H9.out H9'.out y.f0 (by have := Hy.out; omega) h2 h3 HR.out.hR' (a.map (·.f1)) A cc (by rw [List.length_map]; exact HS2.out) (by rw [List.length_map]; exact Hcc.out) (by rw [List.length_map]; exact h4) (by rw [List.length_map]; rw [List.length_map] at h5; exact h5) (fun z hz => by
    obtain ⟨x, hx, rfl⟩ := List.mem_map.1 hz
    exact (HI.out x (by rw [Ha.out]; simp [hx])).2.2)
  rw [List.length_map, ← Hka.out] at h34
  have H34 := Lib.hid h34
  clear HPU y0 y2 h34 hRl h2 h3 h4 h5 h6
  go_wp2_with (first
    | (go_at_call 34; refine H34.out.mono ?_; rintro e w3 ⟨rfl, HB3, HU3⟩))
  go_ret
  refine ⟨rfl, own2, Lib.hid ((HU1.out.then (HU2.out.mono (fun t h => by omega))).then (HU3.out.mono (fun t h => by omega))), Lib.hid ⟨l2, c2', cap2, s2, r2, q, ms, oR, oM + 1, Ar, cr, Am, cm, HL2.out.upd (S := (2 ≤ ·)) (by decide) (by decide) HU3.out, HB3.out, by rw [Hl2.out]; exact H6.out, ?_, ?_, Nat.le_refl _⟩⟩
  · intro z hz
    rw [Hl2.out, List.mem_append] at hz
    exact HI.out z (by rw [Ha.out]; rcases hz with h | h <;> simp [h])
  · have h1 := HBD.out
    unfold Bnd at h1 ⊢
    rw [Ha.out, recsX_app, recsX_cons] at h1
    rw [Hl2.out, recsX_app]
    rcases h1 with h1 | h1
    · exact .inl h1
    · right; split at h1 <;> omega
set_option maxRecDepth 100000 in
set_option maxHeartbeats 8000000 in
theorem step21_full0 (own : Nat → Nat) (w : World) (g b : Nat) (rm : Int) (l : List Pr) (c cap s r : Nat) (h : LaneAt own w g rm false l c cap s r) (q : List Pq) (ms : List Int) (oR oM : Nat) (Ar Am : Option Addr) (cr cm : Nat) (hb : BookAt own w b q ms oR oM Ar cr Am cm) (hR : Rel (l.map (·.1)) (q.map (·.1)) ms oR oM) (hI : Inv (l.map (·.1))) (hB : Bnd rm (l.map (·.1))) (h0 : 0 ≤ rm) (hq9 : q.length ≤ 10000) (hm9 : ms.length ≤ 10000) (fb : Bool) (A2 : Option Addr) (n2 c2 : Nat) (A3 : Option Addr) (n3 c3 : Nat) (hr : rm = 0) :
    Calls Try.prog 21 #[.pointer (some ⟨b, 0, none⟩), .pointer (some ⟨g, 0, none⟩), .int .i64 rm, .agg #[.int .i64 7, .bool fb, .slice A2 n2 c2, .slice A3 n3 c3]] w fun e w' => e = .returned (.bool true) ∧ StepTo own w g b rm (q.length + ms.length) w' := by
  have HL := Lib.hid (h.upd (S := fun _ => False) (by decide) (by decide) (Upd.alloc (.cells #[.int .i64 7, .bool fb, .slice A2 n2 c2, .slice A3 n3 c3] 60) 5))
  have HB := Lib.hid (hb.upd (S := fun _ => False) (by decide) (by decide) (by decide) (by decide) (Upd.alloc (.cells #[.int .i64 7, .bool fb, .slice A2 n2 c2, .slice A3 n3 c3] 60) 5))
  have HU1 : Hid (Upd (1 ≤ ·) own w (fresh own w 5) (w.alloc (.cells #[.int .i64 7, .bool fb, .slice A2 n2 c2, .slice A3 n3 c3] 60))) := Lib.hid (Upd.alloc _ _)
  have HE := Lib.hid (blk_new w (.cells #[.int .i64 7, .bool fb, .slice A2 n2 c2, .slice A3 n3 c3] 60))
  have Ho5 : Hid (fresh own w 5 w.heap.size = 5) := Lib.hid (fresh_new (Nat.le_refl _))
  have HR := Lib.hid hR
  have HI := Lib.hid hI
  have HBD := Lib.hid hB
  have H9 := Lib.hid hq9
  have H9' := Lib.hid hm9
  have Hll : Hid (l.length ≤ 20000) := Lib.hid (by have h1 := hR.len (fun x hx => (hI x hx).2.1); rw [List.length_map, List.length_map] at h1; omega)
  clear h hb hR hI hB
  go_enter Try.func21, Try.ntmps21
  go_upto_region 1 with (fail)
  generalize w.alloc (.cells #[.int .i64 7, .bool fb, .slice A2 n2 c2, .slice A3 n3 c3] 60) = w1 at *
  generalize fresh own w 5 = own1 at *
  generalize w.heap.size = bx at *
  have y0 : w1.cell? ⟨bx, 0, none⟩ = some (.int .i64 7) := blk_at HE.out 0 rfl
  have y2 : w1.cell? ⟨bx, 2, none⟩ = some (.slice A2 n2 c2) := blk_at HE.out 2 rfl
  have hf := full17 own1 w1 g c cap s r rm l HL.out
  obtain ⟨hd, hhd⟩ : ∃ hd, hd = q.length - oR := ⟨_, rfl⟩
  have hrec : recs l = (hd : Int) := by
    rw [recs_map, HR.out.held, List.length_map, hhd]
  have hbd : rm = 0 ∨ (hd : Int) ≤ rm := by
    have h1 := HBD.out
    unfold Bnd at h1
    rw [HR.out.held, List.length_map, ← hhd] at h1
    exact h1
  have HHELD0 : Hid (∀ W : World, PLift (Below w1.heap.size w1 W) → Calls Try.prog 33 #[.pointer (some ⟨b, 0, none⟩)] W fun e w' => e = .returned (.int .i64 (hd : Int)) ∧ Hid (Below W.heap.size W w')) := Lib.hid (fun W hW => by
    have := held33 own1 W b q ms oR oM Ar Am cr cm (HB.out.upd (S := fun _ => False) (by decide) (by decide) (by decide) (by decide) (Upd.of_below' hW.down (fun _ _ => rfl))) H9.out HR.out.hR'
    rw [← hhd] at this
    exact this)
  have hd9 : hd ≤ 10000 := by have := H9.out; omega
  have k3 : decide (0 < rm) = false := decide_eq_false (by omega)
  have k5 : (rm == 0) = true := by simp [hr]
  have hfv : full rm l = false := by unfold full; rw [k3]; rfl
  clear hr
  rw [hfv] at hf
  have HF := Lib.hid hf
  clear hf hfv hrec hhd hq9 hm9
  go_upto_region 15 with (first
    | (go_at_call 17; refine HF.out.mono ?_; rintro e w2 ⟨rfl, HB2⟩))
  have HHELD : Hid (∀ W : World, PLift (Below w2.heap.size w2 W) → Calls Try.prog 33 #[.pointer (some ⟨b, 0, none⟩)] W fun e w' => e = .returned (.int .i64 (hd : Int)) ∧ Hid (Below W.heap.size W w')) := Lib.hid (fun W hW => HHELD0.out W ⟨HB2.out.trans (hW.down.mono HB2.out.size)⟩)
  clear y0 y2
  go_wp2_with (first
    | (fail))
  go_ret
  have hu4 : Upd (fun _ => False) own1 w1 own1 _ := Upd.of_below' HB2.out (fun _ _ => rfl)
  exact ⟨rfl, own1, Lib.hid (HU1.out.then (hu4.mono (fun _ h => h.elim))), Lib.hid ⟨l, c, cap, s, r, q, ms, oR, oM, Ar, cr, Am, cm, HL.out.upd (by decide) (by decide) hu4, HB.out.upd (by decide) (by decide) (by decide) (by decide) hu4, HR.out, HI.out, HBD.out, Nat.le_refl _⟩⟩
set_option maxRecDepth 100000 in
set_option maxHeartbeats 8000000 in
theorem step21_full1 (own : Nat → Nat) (w : World) (g b : Nat) (rm : Int) (l : List Pr) (c cap s r : Nat) (h : LaneAt own w g rm false l c cap s r) (q : List Pq) (ms : List Int) (oR oM : Nat) (Ar Am : Option Addr) (cr cm : Nat) (hb : BookAt own w b q ms oR oM Ar cr Am cm) (hR : Rel (l.map (·.1)) (q.map (·.1)) ms oR oM) (hI : Inv (l.map (·.1))) (hB : Bnd rm (l.map (·.1))) (h0 : 0 ≤ rm) (hq9 : q.length ≤ 10000) (hm9 : ms.length ≤ 10000) (fb : Bool) (A2 : Option Addr) (n2 c2 : Nat) (A3 : Option Addr) (n3 c3 : Nat) (hr : 0 < rm) (hx : rm ≤ recs l) :
    Calls Try.prog 21 #[.pointer (some ⟨b, 0, none⟩), .pointer (some ⟨g, 0, none⟩), .int .i64 rm, .agg #[.int .i64 7, .bool fb, .slice A2 n2 c2, .slice A3 n3 c3]] w fun e w' => e = .returned (.bool true) ∧ StepTo own w g b rm (q.length + ms.length) w' := by
  have HL := Lib.hid (h.upd (S := fun _ => False) (by decide) (by decide) (Upd.alloc (.cells #[.int .i64 7, .bool fb, .slice A2 n2 c2, .slice A3 n3 c3] 60) 5))
  have HB := Lib.hid (hb.upd (S := fun _ => False) (by decide) (by decide) (by decide) (by decide) (Upd.alloc (.cells #[.int .i64 7, .bool fb, .slice A2 n2 c2, .slice A3 n3 c3] 60) 5))
  have HU1 : Hid (Upd (1 ≤ ·) own w (fresh own w 5) (w.alloc (.cells #[.int .i64 7, .bool fb, .slice A2 n2 c2, .slice A3 n3 c3] 60))) := Lib.hid (Upd.alloc _ _)
  have HE := Lib.hid (blk_new w (.cells #[.int .i64 7, .bool fb, .slice A2 n2 c2, .slice A3 n3 c3] 60))
  have Ho5 : Hid (fresh own w 5 w.heap.size = 5) := Lib.hid (fresh_new (Nat.le_refl _))
  have HR := Lib.hid hR
  have HI := Lib.hid hI
  have HBD := Lib.hid hB
  have H9 := Lib.hid hq9
  have H9' := Lib.hid hm9
  have Hll : Hid (l.length ≤ 20000) := Lib.hid (by have h1 := hR.len (fun x hx => (hI x hx).2.1); rw [List.length_map, List.length_map] at h1; omega)
  clear h hb hR hI hB
  go_enter Try.func21, Try.ntmps21
  go_upto_region 1 with (fail)
  generalize w.alloc (.cells #[.int .i64 7, .bool fb, .slice A2 n2 c2, .slice A3 n3 c3] 60) = w1 at *
  generalize fresh own w 5 = own1 at *
  generalize w.heap.size = bx at *
  have y0 : w1.cell? ⟨bx, 0, none⟩ = some (.int .i64 7) := blk_at HE.out 0 rfl
  have y2 : w1.cell? ⟨bx, 2, none⟩ = some (.slice A2 n2 c2) := blk_at HE.out 2 rfl
  have hf := full17 own1 w1 g c cap s r rm l HL.out
  obtain ⟨hd, hhd⟩ : ∃ hd, hd = q.length - oR := ⟨_, rfl⟩
  have hrec : recs l = (hd : Int) := by
    rw [recs_map, HR.out.held, List.length_map, hhd]
  have hbd : rm = 0 ∨ (hd : Int) ≤ rm := by
    have h1 := HBD.out
    unfold Bnd at h1
    rw [HR.out.held, List.length_map, ← hhd] at h1
    exact h1
  have HHELD0 : Hid (∀ W : World, PLift (Below w1.heap.size w1 W) → Calls Try.prog 33 #[.pointer (some ⟨b, 0, none⟩)] W fun e w' => e = .returned (.int .i64 (hd : Int)) ∧ Hid (Below W.heap.size W w')) := Lib.hid (fun W hW => by
    have := held33 own1 W b q ms oR oM Ar Am cr cm (HB.out.upd (S := fun _ => False) (by decide) (by decide) (by decide) (by decide) (Upd.of_below' hW.down (fun _ _ => rfl))) H9.out HR.out.hR'
    rw [← hhd] at this
    exact this)
  have hd9 : hd ≤ 10000 := by have := H9.out; omega
  rw [hrec] at hx
  have k3 : decide (0 < rm) = true := decide_eq_true hr
  have k4 : decide (rm ≤ (hd : Int)) = true := decide_eq_true hx
  have k5 : (rm == 0) = false := by simp; omega
  have k6 : decide ((hd : Int) ≤ rm) = true := decide_eq_true (by omega)
  have hfv : full rm l = true := by unfold full; rw [hrec, k3, k4]; rfl
  clear hr hx hbd
  rw [hfv] at hf
  have HF := Lib.hid hf
  clear hf hfv hrec hhd hq9 hm9
  go_upto_region 15 with (first
    | (go_at_call 17; refine HF.out.mono ?_; rintro e w2 ⟨rfl, HB2⟩))
  have HHELD : Hid (∀ W : World, PLift (Below w2.heap.size w2 W) → Calls Try.prog 33 #[.pointer (some ⟨b, 0, none⟩)] W fun e w' => e = .returned (.int .i64 (hd : Int)) ∧ Hid (Below W.heap.size W w')) := Lib.hid (fun W hW => HHELD0.out W ⟨HB2.out.trans (hW.down.mono HB2.out.size)⟩)
  clear y0 y2
  go_wp2_with (first
    | (go_at_call 33; refine (HHELD.out _ (by first | exact ⟨HB3.out⟩ | exact ⟨Below.refl _ _⟩)).mono ?_; rintro e w3 ⟨rfl, HBx⟩
       first
         | (have HB4 := Lib.hid (HB3.out.trans (HBx.out.mono HB3.out.size)))
         | (have HB3 := HBx)))
  go_ret
  have hu4 : Upd (fun _ => False) own1 w1 own1 _ := (Upd.of_below' HB2.out (fun _ _ => rfl)).then (Upd.of_below' HB4.out (fun _ _ => rfl))
  exact ⟨rfl, own1, Lib.hid (HU1.out.then (hu4.mono (fun _ h => h.elim))), Lib.hid ⟨l, c, cap, s, r, q, ms, oR, oM, Ar, cr, Am, cm, HL.out.upd (by decide) (by decide) hu4, HB.out.upd (by decide) (by decide) (by decide) (by decide) hu4, HR.out, HI.out, HBD.out, Nat.le_refl _⟩⟩
set_option maxRecDepth 100000 in
set_option maxHeartbeats 8000000 in
theorem step21_full2 (own : Nat → Nat) (w : World) (g b : Nat) (rm : Int) (l : List Pr) (c cap s r : Nat) (h : LaneAt own w g rm false l c cap s r) (q : List Pq) (ms : List Int) (oR oM : Nat) (Ar Am : Option Addr) (cr cm : Nat) (hb : BookAt own w b q ms oR oM Ar cr Am cm) (hR : Rel (l.map (·.1)) (q.map (·.1)) ms oR oM) (hI : Inv (l.map (·.1))) (hB : Bnd rm (l.map (·.1))) (h0 : 0 ≤ rm) (hq9 : q.length ≤ 10000) (hm9 : ms.length ≤ 10000) (fb : Bool) (A2 : Option Addr) (n2 c2 : Nat) (A3 : Option Addr) (n3 c3 : Nat) (hr : 0 < rm) (hx : ¬ rm ≤ recs l) :
    Calls Try.prog 21 #[.pointer (some ⟨b, 0, none⟩), .pointer (some ⟨g, 0, none⟩), .int .i64 rm, .agg #[.int .i64 7, .bool fb, .slice A2 n2 c2, .slice A3 n3 c3]] w fun e w' => e = .returned (.bool true) ∧ StepTo own w g b rm (q.length + ms.length) w' := by
  have HL := Lib.hid (h.upd (S := fun _ => False) (by decide) (by decide) (Upd.alloc (.cells #[.int .i64 7, .bool fb, .slice A2 n2 c2, .slice A3 n3 c3] 60) 5))
  have HB := Lib.hid (hb.upd (S := fun _ => False) (by decide) (by decide) (by decide) (by decide) (Upd.alloc (.cells #[.int .i64 7, .bool fb, .slice A2 n2 c2, .slice A3 n3 c3] 60) 5))
  have HU1 : Hid (Upd (1 ≤ ·) own w (fresh own w 5) (w.alloc (.cells #[.int .i64 7, .bool fb, .slice A2 n2 c2, .slice A3 n3 c3] 60))) := Lib.hid (Upd.alloc _ _)
  have HE := Lib.hid (blk_new w (.cells #[.int .i64 7, .bool fb, .slice A2 n2 c2, .slice A3 n3 c3] 60))
  have Ho5 : Hid (fresh own w 5 w.heap.size = 5) := Lib.hid (fresh_new (Nat.le_refl _))
  have HR := Lib.hid hR
  have HI := Lib.hid hI
  have HBD := Lib.hid hB
  have H9 := Lib.hid hq9
  have H9' := Lib.hid hm9
  have Hll : Hid (l.length ≤ 20000) := Lib.hid (by have h1 := hR.len (fun x hx => (hI x hx).2.1); rw [List.length_map, List.length_map] at h1; omega)
  clear h hb hR hI hB
  go_enter Try.func21, Try.ntmps21
  go_upto_region 1 with (fail)
  generalize w.alloc (.cells #[.int .i64 7, .bool fb, .slice A2 n2 c2, .slice A3 n3 c3] 60) = w1 at *
  generalize fresh own w 5 = own1 at *
  generalize w.heap.size = bx at *
  have y0 : w1.cell? ⟨bx, 0, none⟩ = some (.int .i64 7) := blk_at HE.out 0 rfl
  have y2 : w1.cell? ⟨bx, 2, none⟩ = some (.slice A2 n2 c2) := blk_at HE.out 2 rfl
  have hf := full17 own1 w1 g c cap s r rm l HL.out
  obtain ⟨hd, hhd⟩ : ∃ hd, hd = q.length - oR := ⟨_, rfl⟩
  have hrec : recs l = (hd : Int) := by
    rw [recs_map, HR.out.held, List.length_map, hhd]
  have hbd : rm = 0 ∨ (hd : Int) ≤ rm := by
    have h1 := HBD.out
    unfold Bnd at h1
    rw [HR.out.held, List.length_map, ← hhd] at h1
    exact h1
  have HHELD0 : Hid (∀ W : World, PLift (Below w1.heap.size w1 W) → Calls Try.prog 33 #[.pointer (some ⟨b, 0, none⟩)] W fun e w' => e = .returned (.int .i64 (hd : Int)) ∧ Hid (Below W.heap.size W w')) := Lib.hid (fun W hW => by
    have := held33 own1 W b q ms oR oM Ar Am cr cm (HB.out.upd (S := fun _ => False) (by decide) (by decide) (by decide) (by decide) (Upd.of_below' hW.down (fun _ _ => rfl))) H9.out HR.out.hR'
    rw [← hhd] at this
    exact this)
  have hd9 : hd ≤ 10000 := by have := H9.out; omega
  rw [hrec] at hx
  have k3 : decide (0 < rm) = true := decide_eq_true hr
  have k4 : decide (rm ≤ (hd : Int)) = false := decide_eq_false hx
  have k5 : (rm == 0) = false := by simp; omega
  have k6 : decide ((hd : Int) ≤ rm) = true := decide_eq_true (by omega)
  have hfv : full rm l = false := by unfold full; rw [hrec, k3, k4]; rfl
  clear hr hx hbd
  rw [hfv] at hf
  have HF := Lib.hid hf
  clear hf hfv hrec hhd hq9 hm9
  go_upto_region 15 with (first
    | (go_at_call 17; refine HF.out.mono ?_; rintro e w2 ⟨rfl, HB2⟩))
  have HHELD : Hid (∀ W : World, PLift (Below w2.heap.size w2 W) → Calls Try.prog 33 #[.pointer (some ⟨b, 0, none⟩)] W fun e w' => e = .returned (.int .i64 (hd : Int)) ∧ Hid (Below W.heap.size W w')) := Lib.hid (fun W hW => HHELD0.out W ⟨HB2.out.trans (hW.down.mono HB2.out.size)⟩)
  clear y0 y2
  go_wp2_with (first
    | (go_at_call 33; refine (HHELD.out _ (by first | exact ⟨HB3.out⟩ | exact ⟨Below.refl _ _⟩)).mono ?_; rintro e w3 ⟨rfl, HBx⟩
       first
         | (have HB4 := Lib.hid (HB3.out.trans (HBx.out.mono HB3.out.size)))
         | (have HB3 := HBx)))
  go_ret
  have hu4 : Upd (fun _ => False) own1 w1 own1 _ := (Upd.of_below' HB2.out (fun _ _ => rfl)).then (Upd.of_below' HB4.out (fun _ _ => rfl))
  exact ⟨rfl, own1, Lib.hid (HU1.out.then (hu4.mono (fun _ h => h.elim))), Lib.hid ⟨l, c, cap, s, r, q, ms, oR, oM, Ar, cr, Am, cm, HL.out.upd (by decide) (by decide) hu4, HB.out.upd (by decide) (by decide) (by decide) (by decide) hu4, HR.out, HI.out, HBD.out, Nat.le_refl _⟩⟩
end Go.Proofs.Ytcbfddhdaamimaa.PLaneFifo
