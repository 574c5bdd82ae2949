/- The reference's at, in, keys in plain words; its Check. -/
import Derived.Test.YtpplnhefpcofoaaZQD
import Derived.WalkLawsBesides
namespace Go.Proofs.Ytpplnhefpcofoaa.PDeltaJoin
open Go.RowKit Go.Proofs.YtpplnhefpcofoaaW.PrintWords Go.Proofs.YtpplnhefpcofoaaW.PrintLast
set_option linter.unusedVariables false
set_option linter.unusedSimpArgs false

/-- A cell and whether there is one, answered. -/
def AtAns (r : ByteArray × List S87 × Bool) (w : World) (e : Ending) (w' : World) : Prop :=
  ∃ A c, e = .returned (.tuple #[.agg #[.string r.1, .slice A r.2.1.length c], .bool r.2.2]) ∧ Hid (Kd.R k87 87 w' w.heap.size (fun _ => True) (.slice A r.2.1.length c) r.2.1) ∧ Hid (Below w.heap.size w w')
theorem at40 (l : List S63) (A : Option Addr) (c : Nat) (key : ByteArray) (w : World) (hA : Kd.C k63 w A l.length l) (hc : l.length ≤ c) (hp : partsC l ≤ 100000) :
    Calls Try.prog 40 #[.slice A l.length c, .string key] w fun e w' => AtAns (atP l key) w e w' := by
  obtain ⟨K, hK⟩ := at_some l hp key
  refine (eddyref11_at.calls K A c l key (atP l key).1 (atP l key).2.1 (atP l key).2.2 w hA hc hK).mono ?_
  rintro e w' ⟨v, rfl, hr, hb⟩
  obtain ⟨A', c', hv⟩ := Kd.R_slice hr
  subst hv
  exact ⟨A', c', rfl, Lib.hid hr, Lib.hid hb⟩
theorem in41 (l : List ByteArray) (A : Option Addr) (c : Nat) (key : ByteArray) (w : World) (hA : Kd.C Kd.string w A l.length l) (hc : l.length ≤ c) (hl : l.length ≤ 100000) :
    Calls Try.prog 41 #[.slice A l.length c, .string key] w fun e w' => SaysB (eqB (key ∈ l)) w e w' := by
  obtain ⟨K, hK⟩ := in_some l hl key
  exact (eddyref11_in.calls K A c l key _ w hA hc hK).mono (fun e w' h => ⟨h.1, Lib.hid h.2.below⟩)
/-- Keys, answered. -/
def KeysAns (r : List ByteArray) (w : World) (e : Ending) (w' : World) : Prop := ∃ A c, e = .returned (.slice A r.length c) ∧ Hid (Kd.R Kd.string 9 w' w.heap.size (fun _ => True) (.slice A r.length c) r) ∧ Hid (Below w.heap.size w w')
theorem keys39 (a b : List S63) (c d : List ByteArray) (ha : a.length ≤ 10000) (hb : b.length ≤ 10000) (hc : c.length ≤ 10000) (hd : d.length ≤ 10000) :
    ∃ r, (Ris kS r ∧ ∀ k, k ∈ r ↔ inC a k ∨ inC b k ∨ k ∈ c ∨ k ∈ d) ∧ ∀ (A B C D : Option Addr) (ka kb kc kd : Nat) (w : World), Kd.C k63 w A a.length a → Kd.C k63 w B b.length b → Kd.C Kd.string w C c.length c → Kd.C Kd.string w D d.length d → a.length ≤ ka → b.length ≤ kb → c.length ≤ kc → d.length ≤ kd →
      Calls Try.prog 39 #[.slice A a.length ka, .slice B b.length kb, .slice C c.length kc, .slice D d.length kd] w fun e w' => KeysAns r w e w' := by
  obtain ⟨K, r, hK, h1, h2⟩ := keys_some a b c d ha hb hc hd
  refine ⟨r, ⟨h1, h2⟩, fun A B C D ka kb kc kd w hA hB hC hD la lb lc ld => ?_⟩
  refine (eddyref11_keys.calls K A ka a B kb b C kc c D kd d r w hA la hB lb hC lc hD ld hK).mono ?_
  rintro e w' ⟨v, rfl, hr, hb⟩
  obtain ⟨A', c', hv⟩ := Kd.R_slice hr
  subst hv
  exact ⟨A', c', rfl, Lib.hid hr, Lib.hid hb⟩
theorem atP_has (l : List S63) (key : ByteArray) : (atP l key).2.2 = eqB (inC l key) := by
  unfold atP
  cases h : l.find? (fun c => decide (c.f0 = key)) with
  | none =>
    rw [eqB_false]
    rintro ⟨c, hc, e⟩
    have := List.find?_eq_none.1 h c hc
    simp [e] at this
  | some c =>
    rw [eqB_true]
    have h1 := List.mem_of_find?_eq_some h
    have h2 := List.find?_some h
    exact ⟨c, h1, of_decide_eq_true h2⟩
/-- The cell of that key, of a rising list. -/
theorem atP_cell {l : List S63} (h : Ris kC l) {c : S63} (hc : c ∈ l) : atP l c.f0 = (c.f0, c.f1, true) := by
  unfold atP
  cases hf : l.find? (fun d => decide (d.f0 = c.f0)) with
  | none =>
    have := List.find?_eq_none.1 hf c hc
    simp at this
  | some d =>
    have h1 := List.mem_of_find?_eq_some hf
    have h2 : d.f0 = c.f0 := by have := List.find?_some hf; exact of_decide_eq_true this
    rw [h.one h1 hc h2]
set_option maxRecDepth 100000 in
set_option maxHeartbeats 16000000 in
theorem rcheck17 (num : Int) (set : List S63) (gone : List ByteArray) (A B : Option Addr) (ca cb : Nat) (w : World) (hA : Kd.C k63 w A set.length set) (hB : Kd.C Kd.string w B gone.length gone) (hc : set.length ≤ ca) (hp : partsC set ≤ 100000) :
    Calls Try.prog 17 #[.agg #[.int .i64 num, .slice A set.length ca, .slice B gone.length cb]] w fun e w' => e = .returned (.int .i64 (chkD num set gone)) ∧ Hid (Below w.heap.size w w') := by
  have HY : Hid (∀ W, Below w.heap.size w W → Calls Try.prog 38 #[.agg #[.int .i64 num, .slice A set.length ca]] W fun e w' => e = .returned (.int .i64 (chkS num set)) ∧ Hid (Below W.heap.size W w')) := Lib.hid (fun W h => rcheckState38 num set A ca W (Kd.C_below hA h))
  have HAT : Hid (∀ W (u : ByteArray), Below w.heap.size w W → Calls Try.prog 40 #[.slice A set.length ca, .string u] W fun e w' => AtAns (atP set u) W e w') := Lib.hid (fun W u h => at40 set A ca u W (Kd.C_below hA h) hc hp)
  obtain ⟨n, hn⟩ : ∃ n, n = set.length := ⟨_, rfl⟩
  obtain ⟨m, hm⟩ : ∃ m, m = gone.length := ⟨_, rfl⟩
  have HB := Lib.hid hB
  have Hm := Lib.hid hm
  have hmm : m ≤ 9223372036854775807 := by rw [hm]; exact Kd.C_max hB
  rw [← hn] at HY HAT
  rw [← hn, ← hm]
  have HX := Lib.hid (blk_new w (.cells #[.int .i64 num, .slice A n ca, .slice B m cb] 27))
  have HW0 : Hid (Below w.heap.size w (w.alloc (.cells #[.int .i64 num, .slice A n ca, .slice B m cb] 27))) := (Below.refl _ _).alloc (Nat.le_refl _) _
  clear hA hB hn hm hc hp
  go_enter Try.func17, Try.ntmps17
  go_upto_region 1 with (fail)
  generalize w.alloc (.cells #[.int .i64 num, .slice A n ca, .slice B m cb] 27) = wa at *
  obtain ⟨g, hg⟩ : ∃ g, g = w.heap.size := ⟨_, rfl⟩
  rw [← hg] at HX ⊢
  clear hg
  have b0 : wa.cell? ⟨g, 0, none⟩ = some (.int .i64 num) := blk_at HX.out 0 rfl
  have b1 : wa.cell? ⟨g, 1, none⟩ = some (.slice A n ca) := blk_at HX.out 1 rfl
  have b2 : wa.cell? ⟨g, 2, none⟩ = some (.slice B m cb) := blk_at HX.out 2 rfl
  generalize hz : chkS num set = z at HY
  have HZ := Lib.hid hz
  clear hz
  by_cases hz0 : z = 0
  rotate_left
  · have HR : Hid (chkD num set gone = z) := Lib.hid (by unfold chkD; rw [HZ.out, if_pos hz0])
    have k1 : (z == 0) = false := beq_false_of_ne hz0
    have k2 : (z != 0) = true := by simp [hz0]
    clear hz0
    go_wp2_with (go_at_call 38; refine (HY.out wa HW0.out).mono ?_; rintro e w1 ⟨rfl, hb1⟩
                 have HW1 : Hid (Below w.heap.size w w1) := HW0.out.trans (hb1.out.mono HW0.out.size)
                 clear hb1)
    go_ret
    rw [HR.out]
    exact ⟨rfl, HW1⟩
  subst hz0
  have HR0 : Hid (chkD num set gone = if 64 < gone.length then 111 else chkGone (fS set) none gone) := Lib.hid (by unfold chkD; rw [if_neg (by rw [HZ.out]; simp)])
  go_upto_region 4 with (go_at_call 38; refine (HY.out wa HW0.out).mono ?_; rintro e w1 ⟨rfl, hb1⟩
                         have HW1 : Hid (Below w.heap.size w w1) := HW0.out.trans (hb1.out.mono HW0.out.size)
                         have HX1 := Lib.hid (blk_below HX.out hb1.out)
                         clear hb1)
  clear b0 b1 b2 HW0 HX HY
  have b0 : w1.cell? ⟨g, 0, none⟩ = some (.int .i64 num) := blk_at HX1.out 0 rfl
  have b1 : w1.cell? ⟨g, 1, none⟩ = some (.slice A n ca) := blk_at HX1.out 1 rfl
  have b2 : w1.cell? ⟨g, 2, none⟩ = some (.slice B m cb) := blk_at HX1.out 2 rfl
  by_cases h3 : 64 < m
  · have k3 : decide (64 < (m : Int)) = true := decide_eq_true (by omega)
    have HR : Hid (chkD num set gone = 111) := Lib.hid (HR0.out.trans (if_pos (by rw [← Hm.out]; exact h3)))
    clear h3
    go_wp2_with (fail)
    go_ret
    rw [HR.out]
    exact ⟨rfl, HW1⟩
  have k3 : decide (64 < (m : Int)) = false := decide_eq_false (by omega)
  replace HR0 : Hid (chkD num set gone = chkGone (fS set) none gone) := Lib.hid (HR0.out.trans (if_neg (by rw [← Hm.out]; exact h3)))
  clear h3 b0 b1
  go_wp2_with (fail)
  clear k3 b2
  go_loopw [4, 5, 6] (fun v4 _ _ wr => ∃ k : Nat, k ≤ m ∧ v4 = .int .i64 k ∧ Hid (chkD num set gone = chkGone (fS set) (prevS gone k) (gone.drop k)) ∧ Hid (Below w.heap.size w wr) ∧ Hid (wr.heap[g]? = some (.cells #[.int .i64 num, .slice A n ca, .slice B m cb] 27 (0, 0)))) (fun v4 _ _ _ => m - (intOf v4).toNat)
  case atStart => exact ⟨0, Nat.zero_le _, rfl, HR0, HW1, HX1⟩
  case round =>
    clear HR0 HW1 HX1
    obtain ⟨k, hk, rfl, HR, HBk, HXk⟩ := hrel
    have t2 : wr.cell? ⟨g, 2, none⟩ = some (.slice B m cb) := blk_at HXk.out 2 rfl
    by_cases hlt : k < m
    rotate_left
    · obtain rfl : m = k := by omega
      have HR1 : Hid (chkD num set gone = 0) := Lib.hid (by rw [HR.out, List.drop_eq_nil_of_le (by rw [← Hm.out]; exact Nat.le_refl _), chkGone])
      go_wp2_with (fail)
      go_ret
      rw [HR1.out]
      exact ⟨rfl, HBk⟩
    obtain ⟨ad, hA3, e0⟩ := at_str HB.out k (by rw [← Hm.out]; exact hlt)
    have hdr : gone.drop k = gone.getD k ⟨#[]⟩ :: gone.drop (k + 1) := by
      have e : gone.getD k ⟨#[]⟩ = gone[k]'(by rw [← Hm.out]; exact hlt) := by simp [List.getD_eq_getElem?_getD, List.getElem?_eq_getElem (show k < gone.length by rw [← Hm.out]; exact hlt)]
      rw [e, List.drop_eq_getElem_cons (by rw [← Hm.out]; exact hlt)]
    have hpk : prevS gone (k + 1) = some (gone.getD k ⟨#[]⟩) := by unfold prevS; rw [if_neg (by omega)]; rfl
    have HDR := Lib.hid hdr
    have HPK := Lib.hid hpk
    clear hdr hpk
    generalize gone.getD k ⟨#[]⟩ = u at *
    subst hA3
    have E0 := Lib.hid e0
    replace e0 := pw_cell_below HBk.out e0
    have HRc0 : Hid (chkD num set gone = if 12 < u.size then 24 else if notAbove (prevS gone k) u = true ∨ fS set u = 1 then 112 else chkGone (fS set) (some u) (gone.drop (k + 1))) := Lib.hid (by rw [HR.out, HDR.out, chkGone])
    have i0 : (0 : Int) ≤ (k : Int) := by omega
    have i1 : (k : Int) < (m : Int) := by omega
    by_cases h12 : 12 < u.size
    · have k4 : decide (12 < (u.size : Int)) = true := decide_eq_true (by omega)
      have HRN : Hid (chkD num set gone = 24) := Lib.hid (HRc0.out.trans (if_pos h12))
      clear h12
      go_wp2_with (fail)
      go_ret
      rw [HRN.out]
      exact ⟨rfl, HBk⟩
    have k4 : decide (12 < (u.size : Int)) = false := decide_eq_false (by omega)
    have HRc : Hid (chkD num set gone = if notAbove (prevS gone k) u = true ∨ fS set u = 1 then 112 else chkGone (fS set) (some u) (gone.drop (k + 1))) := Lib.hid (HRc0.out.trans (if_neg h12))
    clear h12
    go_upto_region 11 with (fail)
    clear k4
    have t1 : wr.cell? ⟨g, 1, none⟩ = some (.slice A n ca) := blk_at HXk.out 1 rfl
    have hab : (atP set u).2.2 = eqB (inC set u) := atP_has set u
    generalize hbt : eqB (inC set u) = bt at hab
    have HAB := Lib.hid hab
    have HFS : Hid ((bt = true → fS set u = 1) ∧ (fS set u = 1 → bt = true)) := Lib.hid ⟨fun h => (fS_01 set u).resolve_left (fun h0 => fS_zero.1 h0 (of_eqB (hbt.trans h))), fun h => by
      rw [← hbt]
      exact eqB_true (Classical.byContradiction fun hn => by rw [fS_zero.2 hn] at h; simp at h)⟩
    clear hab hbt
    go_cut [6] (fun v6 wx => v6 = .bool bt ∧ Hid (Below wr.heap.size wr wx))
    case first =>
      refine start_ (n := 14) (S := (fun w' => w'.cell? ⟨g, 1, none⟩ = some (.slice A n ca) ∧ w'.cell? ⟨g, 2, none⟩ = some (.slice (some ad) m cb) ∧ w'.cell? (ad.add k) = some (.string u))) (ds := [12]) #[false, false, false, false, false, false, false, false, false, false, false, false, false, false] (by kernel_rfl) rfl rfl ⟨t1, t2, e0⟩ (fun hHeld => ?_)
      have HV0 : Hid (Below wr.heap.size wr wr.drew) := (Below.refl _ _).drew
      generalize wr.drew = V0 at hHeld HV0  ⊢
      refine pure_ (i := 0) (N := some 35) (v := ?_) (a' := ?_) #[true, false, false, false, false, false, false, false, false, false, false, false, false, false] rfl rfl (by kernel_rfl) (fun _ _ _ h => h) (Or.inl ⟨by rfl, ?_⟩) ?_ ?_
      rotate_left
      · intro w'
        go_simp
        with_reducible rfl
      rotate_left
      · simp only [Act.put, List.setIfInBounds_toArray, List.set_cons_zero, List.set_cons_succ]
        rfl
      refine take_ (i := 1) (N := some 36) (v := ?_) (a' := ?_) #[true, true, false, false, false, false, false, false, false, false, false, false, false, false] rfl rfl (by kernel_rfl) (fun _ _ _ h => h) (Or.inl ⟨by rfl, ?_⟩) hHeld ?_ ?_
      rotate_left
      · rintro w' ⟨s0, s1, s2⟩
        go_simp
        with_reducible rfl
      rotate_left
      · simp only [Act.put, List.setIfInBounds_toArray, List.set_cons_zero, List.set_cons_succ]
        rfl
      refine pure_ (i := 2) (N := some 37) (v := ?_) (a' := ?_) #[true, true, true, false, false, false, false, false, false, false, false, false, false, false] rfl rfl (by kernel_rfl) (fun _ _ _ h => h) (Or.inl ⟨by rfl, ?_⟩) ?_ ?_
      rotate_left
      · intro w'
        go_simp
        with_reducible rfl
      rotate_left
      · simp only [Act.put, List.setIfInBounds_toArray, List.set_cons_zero, List.set_cons_succ]
        rfl
      refine take_ (i := 3) (N := some 38) (v := ?_) (a' := ?_) #[true, true, true, true, false, false, false, false, false, false, false, false, false, false] rfl rfl (by kernel_rfl) (fun _ _ _ h => h) (Or.inl ⟨by rfl, ?_⟩) hHeld ?_ ?_
      rotate_left
      · rintro w' ⟨s0, s1, s2⟩
        go_simp
        with_reducible rfl
      rotate_left
      · simp only [Act.put, List.setIfInBounds_toArray, List.set_cons_zero, List.set_cons_succ]
        rfl
      refine pure_ (i := 4) (N := some 39) (v := ?_) (a' := ?_) #[true, true, true, true, true, false, false, false, false, false, false, false, false, false] rfl rfl (by kernel_rfl) (fun _ _ _ h => h) (Or.inl ⟨by rfl, ?_⟩) ?_ ?_
      rotate_left
      · intro w'
        go_simp
        with_reducible rfl
      rotate_left
      · simp only [Act.put, List.setIfInBounds_toArray, List.set_cons_zero, List.set_cons_succ]
        rfl
      refine pure_ (i := 5) (N := some 40) (v := ?_) (a' := ?_) #[true, true, true, true, true, true, false, false, false, false, false, false, false, false] rfl rfl (by kernel_rfl) (fun _ _ _ h => h) (Or.inl ⟨by rfl, ?_⟩) ?_ ?_
      rotate_left
      · intro w'
        go_simp
        with_reducible rfl
      rotate_left
      · simp only [Act.put, List.setIfInBounds_toArray, List.set_cons_zero, List.set_cons_succ]
        rfl
      refine take_ (i := 6) (N := some 41) (v := ?_) (a' := ?_) #[true, true, true, true, true, true, true, false, false, false, false, false, false, false] rfl rfl (by kernel_rfl) (fun _ _ _ h => h) (Or.inl ⟨by rfl, ?_⟩) hHeld ?_ ?_
      rotate_left
      · rintro w' ⟨s0, s1, s2⟩
        go_simp
        with_reducible rfl
      rotate_left
      · simp only [Act.put, List.setIfInBounds_toArray, List.set_cons_zero, List.set_cons_succ]
        rfl
      refine two_ (i := 7) (j := 11) (Ni := some 42) (Nj := some 5) #[true, true, true, true, true, true, true, true, false, false, false, false, false, false] #[true, true, true, true, true, true, true, false, false, false, false, true, false, false] rfl rfl rfl rfl (by kernel_rfl) (by decide) (by decide) (fun K hK => ?_) (fun K hK => ?_)
      · refine goes_ Try.func40 (by kernel_rfl) rfl #[.slice A n ca, .string u] (by rfl) rfl rfl (by simp only [List.map_toArray, List.map_cons, List.map_nil]; rfl) ?_
        refine ((HAT.out V0 u (HBk.out.trans (HV0.out.mono HBk.out.size)))).mono ?_
        rintro e' V1 ⟨A5, c5, rfl, R5, hb⟩
        refine ⟨_, rfl, ?_⟩
        have HV1 : Hid (Below wr.heap.size wr V1) := HV0.out.trans (hb.out.mono HV0.out.size)
        rw [HAB.out]
        refine hK.out _ _ ⟨pw_cell_below hb.out hHeld.1, pw_cell_below hb.out hHeld.2.1, pw_cell_below hb.out hHeld.2.2⟩ (fun hHeld => ?_)
        clear hK K hb
        refine norm_ (a' := ?_) ?_ ?_
        rotate_left
        · show Act.put _ (some 42) _ = _
          simp only [Act.put, List.setIfInBounds_toArray, List.set_cons_zero, List.set_cons_succ]
          rfl
        refine pure_ (i := 8) (N := some 34) (v := ?_) (a' := ?_) #[true, true, true, true, true, true, true, true, true, false, false, false, false, false] rfl rfl (by kernel_rfl) (fun _ _ _ h => h) (Or.inl ⟨by rfl, ?_⟩) ?_ ?_
        rotate_left
        · intro w'
          go_simp
          with_reducible rfl
        rotate_left
        · simp only [Act.put, List.setIfInBounds_toArray, List.set_cons_zero, List.set_cons_succ]
          rfl
        refine pure_ (i := 9) (N := some 43) (v := ?_) (a' := ?_) #[true, true, true, true, true, true, true, true, true, true, false, false, false, false] rfl rfl (by kernel_rfl) (fun _ _ _ h => h) (Or.inl ⟨by rfl, ?_⟩) ?_ ?_
        rotate_left
        · intro w'
          go_simp
          with_reducible rfl
        rotate_left
        · simp only [Act.put, List.setIfInBounds_toArray, List.set_cons_zero, List.set_cons_succ]
          rfl
        refine pure_ (i := 10) (N := some 44) (v := ?_) (a' := ?_) #[true, true, true, true, true, true, true, true, true, true, true, false, false, false] rfl rfl (by kernel_rfl) (fun _ _ _ h => h) (Or.inl ⟨by rfl, ?_⟩) ?_ ?_
        rotate_left
        · intro w'
          go_simp
          with_reducible rfl
        rotate_left
        · simp only [Act.put, List.setIfInBounds_toArray, List.set_cons_zero, List.set_cons_succ]
          rfl
        refine one_ (i := 11) (N := some 5) #[true, true, true, true, true, true, true, true, true, true, true, true, false, false] rfl rfl (by kernel_rfl) (by decide) (fun K hK => ?_)
        obtain ⟨nb, hnb⟩ : ∃ nb, nb = V1.heap.size := ⟨_, rfl⟩
        refine value_ (w1 := (V1.alloc (.cells #[.string ⟨#[]⟩, .slice none 0 0] 63))) (v := .pointer (some ⟨nb, 0, none⟩)) (by rfl) rfl (by rw [hnb]; go_simp) ?_
        have hal : Hid (Below V1.heap.size V1 (V1.alloc (.cells #[.string ⟨#[]⟩, .slice none 0 0] 63))) := Lib.hid ((Below.refl _ _).alloc (Nat.le_refl _) _)
        have HN9 : Hid ((V1.alloc (.cells #[.string ⟨#[]⟩, .slice none 0 0] 63)).heap[nb]? = some (.cells #[.string ⟨#[]⟩, .slice none 0 0] 63 (0, 0))) := by rw [hnb]; exact Lib.hid (blk_new _ _)
        have hnb9 : Hid (wr.heap.size ≤ nb) := by rw [hnb]; exact Lib.hid HV1.out.size
        refine hK.out _ _ ⟨pw_cell_below hal.out hHeld.1, pw_cell_below hal.out hHeld.2.1, pw_cell_below hal.out hHeld.2.2⟩ (fun hHeld => ?_)
        clear hK K hnb
        generalize (V1.alloc (.cells #[.string ⟨#[]⟩, .slice none 0 0] 63)) = V2 at hHeld hal HN9 ⊢
        replace R5 := Lib.hid (Kd.R_below R5.out hal.out)
        have HV2 : Hid (Below wr.heap.size wr V2) := HV1.out.trans (hal.out.mono HV1.out.size)
        clear hal
        refine norm_ (a' := ?_) ?_ ?_
        rotate_left
        · show Act.put _ (some 5) _ = _
          simp only [Act.put, List.setIfInBounds_toArray, List.set_cons_zero, List.set_cons_succ]
          rfl
        refine last_ (i := 12) (N := none) #[true, true, true, true, true, true, true, true, true, true, true, true, true, false] rfl rfl (by kernel_rfl) (by decide) (fun K hK => ?_)
        have x0 : V2.cell? ⟨nb, 0, none⟩ = some (.string ⟨#[]⟩) := blk_at HN9.out 0 rfl
        have z0 : V2.frozen? ⟨nb, 0, none⟩ = false := blk_frozen HN9.out 0
        have x1 : V2.cell? ⟨nb, 1, none⟩ = some (.slice none 0 0) := blk_at HN9.out 1 rfl
        have z1 : V2.frozen? ⟨nb, 1, none⟩ = false := blk_frozen HN9.out 1
        refine skip_ (w1 := ((V2.setCell ⟨nb, 0, none⟩ (.string (atP set u).1)).setCell ⟨nb, 1, none⟩ (.slice A5 (atP set u).2.1.length c5))) (by rfl) rfl (by go_simp) ?_
        refine hK.out _ _ ?_
        have R5' := Lib.hid (Kd.R_set (Kd.R_set R5.out HN9.out (by decide) 0 (.string (atP set u).1)) (blk_put HN9.out 0 (.string (atP set u).1) rfl) (by decide) 1 (.slice A5 (atP set u).2.1.length c5))
        have HN9' := Lib.hid (blk_put (blk_put HN9.out 0 (.string (atP set u).1) rfl) 1 (.slice A5 (atP set u).2.1.length c5) rfl)
        have HB9 : Hid (Below wr.heap.size wr ((V2.setCell ⟨nb, 0, none⟩ (.string (atP set u).1)).setCell ⟨nb, 1, none⟩ (.slice A5 (atP set u).2.1.length c5))) := Lib.hid ((HV2.out.setCell (p := ⟨nb, 0, none⟩) hnb9.out _).setCell (p := ⟨nb, 1, none⟩) hnb9.out _)
        clear hK K hHeld x0 z0 x1 z1 R5 HN9 HV0 HV1 HV2
        generalize ((V2.setCell ⟨nb, 0, none⟩ (.string (atP set u).1)).setCell ⟨nb, 1, none⟩ (.slice A5 (atP set u).2.1.length c5)) = W9 at *
        refine pure_ (i := 13) (N := some 6) (v := ?_) (a' := ?_) #[true, true, true, true, true, true, true, true, true, true, true, true, true, true] rfl rfl (by kernel_rfl) (fun _ _ _ h => h) (Or.inl ⟨by rfl, ?_⟩) ?_ ?_
        rotate_left
        · intro w'
          go_simp
          with_reducible rfl
        rotate_left
        · simp only [Act.put, List.setIfInBounds_toArray, List.set_cons_zero, List.set_cons_succ]
          rfl
        refine done_ (by kernel_rfl) ?_
        clear HN9' R5'
        go_wp2_with (fail)
        go_meet
        exact ⟨rfl, HB9⟩
      · obtain ⟨nb, hnb⟩ : ∃ nb, nb = V0.heap.size := ⟨_, rfl⟩
        refine value_ (w1 := (V0.alloc (.cells #[.string ⟨#[]⟩, .slice none 0 0] 63))) (v := .pointer (some ⟨nb, 0, none⟩)) (by rfl) rfl (by rw [hnb]; go_simp) ?_
        have hal : Hid (Below V0.heap.size V0 (V0.alloc (.cells #[.string ⟨#[]⟩, .slice none 0 0] 63))) := Lib.hid ((Below.refl _ _).alloc (Nat.le_refl _) _)
        have HN9 : Hid ((V0.alloc (.cells #[.string ⟨#[]⟩, .slice none 0 0] 63)).heap[nb]? = some (.cells #[.string ⟨#[]⟩, .slice none 0 0] 63 (0, 0))) := by rw [hnb]; exact Lib.hid (blk_new _ _)
        have hnb9 : Hid (wr.heap.size ≤ nb) := by rw [hnb]; exact Lib.hid HV0.out.size
        refine hK.out _ _ ⟨pw_cell_below hal.out hHeld.1, pw_cell_below hal.out hHeld.2.1, pw_cell_below hal.out hHeld.2.2⟩ (fun hHeld => ?_)
        clear hK K hnb
        generalize (V0.alloc (.cells #[.string ⟨#[]⟩, .slice none 0 0] 63)) = V1 at hHeld hal HN9 ⊢
        have HV1 : Hid (Below wr.heap.size wr V1) := HV0.out.trans (hal.out.mono HV0.out.size)
        clear hal
        refine norm_ (a' := ?_) ?_ ?_
        rotate_left
        · show Act.put _ (some 5) _ = _
          simp only [Act.put, List.setIfInBounds_toArray, List.set_cons_zero, List.set_cons_succ]
          rfl
        refine one_ (i := 7) (N := some 42) #[true, true, true, true, true, true, true, true, false, false, false, true, false, false] rfl rfl (by kernel_rfl) (by decide) (fun K hK => ?_)
        refine goes_ Try.func40 (by kernel_rfl) rfl #[.slice A n ca, .string u] (by rfl) rfl rfl (by simp only [List.map_toArray, List.map_cons, List.map_nil]; rfl) ?_
        refine ((HAT.out V1 u (HBk.out.trans (HV1.out.mono HBk.out.size)))).mono ?_
        rintro e' V2 ⟨A5, c5, rfl, R5, hb⟩
        refine ⟨_, rfl, ?_⟩
        replace HN9 := Lib.hid (blk_below HN9.out hb.out)
        have HV2 : Hid (Below wr.heap.size wr V2) := HV1.out.trans (hb.out.mono HV1.out.size)
        rw [HAB.out]
        refine hK.out _ _ ⟨pw_cell_below hb.out hHeld.1, pw_cell_below hb.out hHeld.2.1, pw_cell_below hb.out hHeld.2.2⟩ (fun hHeld => ?_)
        clear hK K hb
        refine norm_ (a' := ?_) ?_ ?_
        rotate_left
        · show Act.put _ (some 42) _ = _
          simp only [Act.put, List.setIfInBounds_toArray, List.set_cons_zero, List.set_cons_succ]
          rfl
        refine pure_ (i := 8) (N := some 34) (v := ?_) (a' := ?_) #[true, true, true, true, true, true, true, true, true, false, false, true, false, false] rfl rfl (by kernel_rfl) (fun _ _ _ h => h) (Or.inl ⟨by rfl, ?_⟩) ?_ ?_
        rotate_left
        · intro w'
          go_simp
          with_reducible rfl
        rotate_left
        · simp only [Act.put, List.setIfInBounds_toArray, List.set_cons_zero, List.set_cons_succ]
          rfl
        refine pure_ (i := 9) (N := some 43) (v := ?_) (a' := ?_) #[true, true, true, true, true, true, true, true, true, true, false, true, false, false] rfl rfl (by kernel_rfl) (fun _ _ _ h => h) (Or.inl ⟨by rfl, ?_⟩) ?_ ?_
        rotate_left
        · intro w'
          go_simp
          with_reducible rfl
        rotate_left
        · simp only [Act.put, List.setIfInBounds_toArray, List.set_cons_zero, List.set_cons_succ]
          rfl
        refine pure_ (i := 10) (N := some 44) (v := ?_) (a' := ?_) #[true, true, true, true, true, true, true, true, true, true, true, true, false, false] rfl rfl (by kernel_rfl) (fun _ _ _ h => h) (Or.inl ⟨by rfl, ?_⟩) ?_ ?_
        rotate_left
        · intro w'
          go_simp
          with_reducible rfl
        rotate_left
        · simp only [Act.put, List.setIfInBounds_toArray, List.set_cons_zero, List.set_cons_succ]
          rfl
        refine last_ (i := 12) (N := none) #[true, true, true, true, true, true, true, true, true, true, true, true, true, false] rfl rfl (by kernel_rfl) (by decide) (fun K hK => ?_)
        have x0 : V2.cell? ⟨nb, 0, none⟩ = some (.string ⟨#[]⟩) := blk_at HN9.out 0 rfl
        have z0 : V2.frozen? ⟨nb, 0, none⟩ = false := blk_frozen HN9.out 0
        have x1 : V2.cell? ⟨nb, 1, none⟩ = some (.slice none 0 0) := blk_at HN9.out 1 rfl
        have z1 : V2.frozen? ⟨nb, 1, none⟩ = false := blk_frozen HN9.out 1
        refine skip_ (w1 := ((V2.setCell ⟨nb, 0, none⟩ (.string (atP set u).1)).setCell ⟨nb, 1, none⟩ (.slice A5 (atP set u).2.1.length c5))) (by rfl) rfl (by go_simp) ?_
        refine hK.out _ _ ?_
        have R5' := Lib.hid (Kd.R_set (Kd.R_set R5.out HN9.out (by decide) 0 (.string (atP set u).1)) (blk_put HN9.out 0 (.string (atP set u).1) rfl) (by decide) 1 (.slice A5 (atP set u).2.1.length c5))
        have HN9' := Lib.hid (blk_put (blk_put HN9.out 0 (.string (atP set u).1) rfl) 1 (.slice A5 (atP set u).2.1.length c5) rfl)
        have HB9 : Hid (Below wr.heap.size wr ((V2.setCell ⟨nb, 0, none⟩ (.string (atP set u).1)).setCell ⟨nb, 1, none⟩ (.slice A5 (atP set u).2.1.length c5))) := Lib.hid ((HV2.out.setCell (p := ⟨nb, 0, none⟩) hnb9.out _).setCell (p := ⟨nb, 1, none⟩) hnb9.out _)
        clear hK K hHeld x0 z0 x1 z1 R5 HN9 HV0 HV1 HV2
        generalize ((V2.setCell ⟨nb, 0, none⟩ (.string (atP set u).1)).setCell ⟨nb, 1, none⟩ (.slice A5 (atP set u).2.1.length c5)) = W9 at *
        refine pure_ (i := 13) (N := some 6) (v := ?_) (a' := ?_) #[true, true, true, true, true, true, true, true, true, true, true, true, true, true] rfl rfl (by kernel_rfl) (fun _ _ _ h => h) (Or.inl ⟨by rfl, ?_⟩) ?_ ?_
        rotate_left
        · intro w'
          go_simp
          with_reducible rfl
        rotate_left
        · simp only [Act.put, List.setIfInBounds_toArray, List.set_cons_zero, List.set_cons_succ]
          rfl
        refine done_ (by kernel_rfl) ?_
        clear HN9' R5'
        go_wp2_with (fail)
        go_meet
        exact ⟨rfl, HB9⟩
    case rest =>
    obtain ⟨rfl, HB9⟩ := hcut
    obtain ⟨W9, hw9⟩ : ∃ W, W = wc := ⟨_, rfl⟩
    rw [← hw9] at HB9 ⊢
    clear hw9 t1 t2 e0 i0 i1
    have HB9w : Hid (Below w.heap.size w W9) := HBk.out.trans (HB9.out.mono HBk.out.size)
    have HX9 := Lib.hid (blk_below HXk.out HB9.out)
    have t2 : W9.cell? ⟨g, 2, none⟩ = some (.slice (some ad) m cb) := blk_at HX9.out 2 rfl
    cases bt with
    | true =>
      have HRN : Hid (chkD num set gone = 112) := Lib.hid (HRc.out.trans (if_pos (.inr (HFS.out.1 rfl))))
      go_upto_region 12 with (fail)
      refine start_ (n := 19) (S := (fun w' => w'.cell? ⟨g, 2, none⟩ = some (.slice (some ad) m cb))) (ds := []) #[false, false, false, false, false, false, false, false, false, false, false, false, false, false, false, false, false, false, false] (by kernel_rfl) rfl rfl t2 (fun hHeld => ?_)
      have HBd : Hid (Below W9.heap.size W9 W9.drew) := (Below.refl _ _).drew
      generalize W9.drew = WD at hHeld HBd ⊢
      refine pure_ (i := 0) (N := some 45) (v := ?_) (a' := ?_) #[true, false, false, false, false, false, false, false, false, false, false, false, false, false, false, false, false, false, false] rfl rfl (by kernel_rfl) (fun _ _ _ h => h) (Or.inl ⟨by rfl, ?_⟩) ?_ ?_
      rotate_left
      · intro w'
        go_simp
        with_reducible rfl
      rotate_left
      · simp only [Act.put, List.setIfInBounds_toArray, List.set_cons_zero, List.set_cons_succ]
        rfl
      refine pure_ (i := 1) (N := some 46) (v := ?_) (a' := ?_) #[true, true, false, false, false, false, false, false, false, false, false, false, false, false, false, false, false, false, false] rfl rfl (by kernel_rfl) (fun _ _ _ h => h) (Or.inl ⟨by rfl, ?_⟩) ?_ ?_
      rotate_left
      · intro w'
        go_simp
        with_reducible rfl
      rotate_left
      · simp only [Act.put, List.setIfInBounds_toArray, List.set_cons_zero, List.set_cons_succ]
        rfl
      refine pure_ (i := 2) (N := some 47) (v := undef) (a' := ?_) #[true, true, true, false, false, false, false, false, false, false, false, false, false, false, false, false, false, false, false] rfl rfl (by kernel_rfl) (fun _ _ _ h => h) (Or.inr ⟨by rfl, rfl⟩) ?_ ?_
      rotate_left
      · simp only [Act.put, List.setIfInBounds_toArray, List.set_cons_zero, List.set_cons_succ]
        rfl
      refine pure_ (i := 3) (N := some 48) (v := undef) (a' := ?_) #[true, true, true, true, false, false, false, false, false, false, false, false, false, false, false, false, false, false, false] rfl rfl (by kernel_rfl) (fun _ _ _ h => h) (Or.inr ⟨by rfl, rfl⟩) ?_ ?_
      rotate_left
      · simp only [Act.put, List.setIfInBounds_toArray, List.set_cons_zero, List.set_cons_succ]
        rfl
      refine pure_ (i := 4) (N := some 49) (v := undef) (a' := ?_) #[true, true, true, true, true, false, false, false, false, false, false, false, false, false, false, false, false, false, false] rfl rfl (by kernel_rfl) (fun _ _ _ h => h) (Or.inr ⟨by rfl, rfl⟩) ?_ ?_
      rotate_left
      · simp only [Act.put, List.setIfInBounds_toArray, List.set_cons_zero, List.set_cons_succ]
        rfl
      refine pure_ (i := 5) (N := some 50) (v := undef) (a' := ?_) #[true, true, true, true, true, true, false, false, false, false, false, false, false, false, false, false, false, false, false] rfl rfl (by kernel_rfl) (fun _ _ _ h => h) (Or.inr ⟨by rfl, rfl⟩) ?_ ?_
      rotate_left
      · simp only [Act.put, List.setIfInBounds_toArray, List.set_cons_zero, List.set_cons_succ]
        rfl
      refine pure_ (i := 6) (N := some 51) (v := undef) (a' := ?_) #[true, true, true, true, true, true, true, false, false, false, false, false, false, false, false, false, false, false, false] rfl rfl (by kernel_rfl) (fun _ _ _ h => h) (Or.inr ⟨by rfl, rfl⟩) ?_ ?_
      rotate_left
      · simp only [Act.put, List.setIfInBounds_toArray, List.set_cons_zero, List.set_cons_succ]
        rfl
      refine pure_ (i := 7) (N := some 52) (v := undef) (a' := ?_) #[true, true, true, true, true, true, true, true, false, false, false, false, false, false, false, false, false, false, false] rfl rfl (by kernel_rfl) (fun _ _ _ h => h) (Or.inr ⟨by rfl, rfl⟩) ?_ ?_
      rotate_left
      · simp only [Act.put, List.setIfInBounds_toArray, List.set_cons_zero, List.set_cons_succ]
        rfl
      refine pure_ (i := 8) (N := some 53) (v := undef) (a' := ?_) #[true, true, true, true, true, true, true, true, true, false, false, false, false, false, false, false, false, false, false] rfl rfl (by kernel_rfl) (fun _ _ _ h => h) (Or.inr ⟨by rfl, rfl⟩) ?_ ?_
      rotate_left
      · simp only [Act.put, List.setIfInBounds_toArray, List.set_cons_zero, List.set_cons_succ]
        rfl
      refine pure_ (i := 9) (N := some 54) (v := undef) (a' := ?_) #[true, true, true, true, true, true, true, true, true, true, false, false, false, false, false, false, false, false, false] rfl rfl (by kernel_rfl) (fun _ _ _ h => h) (Or.inr ⟨by rfl, rfl⟩) ?_ ?_
      rotate_left
      · simp only [Act.put, List.setIfInBounds_toArray, List.set_cons_zero, List.set_cons_succ]
        rfl
      refine pure_ (i := 10) (N := some 55) (v := undef) (a' := ?_) #[true, true, true, true, true, true, true, true, true, true, true, false, false, false, false, false, false, false, false] rfl rfl (by kernel_rfl) (fun _ _ _ h => h) (Or.inr ⟨by rfl, rfl⟩) ?_ ?_
      rotate_left
      · simp only [Act.put, List.setIfInBounds_toArray, List.set_cons_zero, List.set_cons_succ]
        rfl
      refine pure_ (i := 11) (N := some 56) (v := undef) (a' := ?_) #[true, true, true, true, true, true, true, true, true, true, true, true, false, false, false, false, false, false, false] rfl rfl (by kernel_rfl) (fun _ _ _ h => h) (Or.inr ⟨by rfl, rfl⟩) ?_ ?_
      rotate_left
      · simp only [Act.put, List.setIfInBounds_toArray, List.set_cons_zero, List.set_cons_succ]
        rfl
      refine pure_ (i := 12) (N := some 57) (v := undef) (a' := ?_) #[true, true, true, true, true, true, true, true, true, true, true, true, true, false, false, false, false, false, false] rfl rfl (by kernel_rfl) (fun _ _ _ h => h) (Or.inr ⟨by rfl, rfl⟩) ?_ ?_
      rotate_left
      · simp only [Act.put, List.setIfInBounds_toArray, List.set_cons_zero, List.set_cons_succ]
        rfl
      refine pure_ (i := 13) (N := some 58) (v := undef) (a' := ?_) #[true, true, true, true, true, true, true, true, true, true, true, true, true, true, false, false, false, false, false] rfl rfl (by kernel_rfl) (fun _ _ _ h => h) (Or.inr ⟨by rfl, rfl⟩) ?_ ?_
      rotate_left
      · simp only [Act.put, List.setIfInBounds_toArray, List.set_cons_zero, List.set_cons_succ]
        rfl
      refine pure_ (i := 14) (N := some 59) (v := undef) (a' := ?_) #[true, true, true, true, true, true, true, true, true, true, true, true, true, true, true, false, false, false, false] rfl rfl (by kernel_rfl) (fun _ _ _ h => h) (Or.inr ⟨by rfl, rfl⟩) ?_ ?_
      rotate_left
      · simp only [Act.put, List.setIfInBounds_toArray, List.set_cons_zero, List.set_cons_succ]
        rfl
      refine pure_ (i := 15) (N := some 60) (v := undef) (a' := ?_) #[true, true, true, true, true, true, true, true, true, true, true, true, true, true, true, true, false, false, false] rfl rfl (by kernel_rfl) (fun _ _ _ h => h) (Or.inr ⟨by rfl, rfl⟩) ?_ ?_
      rotate_left
      · simp only [Act.put, List.setIfInBounds_toArray, List.set_cons_zero, List.set_cons_succ]
        rfl
      refine pure_ (i := 16) (N := some 61) (v := undef) (a' := ?_) #[true, true, true, true, true, true, true, true, true, true, true, true, true, true, true, true, true, false, false] rfl rfl (by kernel_rfl) (fun _ _ _ h => h) (Or.inr ⟨by rfl, rfl⟩) ?_ ?_
      rotate_left
      · simp only [Act.put, List.setIfInBounds_toArray, List.set_cons_zero, List.set_cons_succ]
        rfl
      refine pure_ (i := 17) (N := some 62) (v := undef) (a' := ?_) #[true, true, true, true, true, true, true, true, true, true, true, true, true, true, true, true, true, true, false] rfl rfl (by kernel_rfl) (fun _ _ _ h => h) (Or.inr ⟨by rfl, rfl⟩) ?_ ?_
      rotate_left
      · simp only [Act.put, List.setIfInBounds_toArray, List.set_cons_zero, List.set_cons_succ]
        rfl
      refine pure_ (i := 18) (N := some 63) (v := ?_) (a' := ?_) #[true, true, true, true, true, true, true, true, true, true, true, true, true, true, true, true, true, true, true] rfl rfl (by kernel_rfl) (fun _ _ _ h => h) (Or.inl ⟨by rfl, ?_⟩) ?_ ?_
      rotate_left
      · intro w'
        go_simp
        with_reducible rfl
      rotate_left
      · simp only [Act.put, List.setIfInBounds_toArray, List.set_cons_zero, List.set_cons_succ]
        rfl
      refine done_ (by kernel_rfl) ?_
      have HBE : Hid (Below w.heap.size w WD) := HB9w.out.trans (HBd.out.mono HB9w.out.size)
      clear hHeld
      go_wp2_with (fail)
      go_ret
      rw [HRN.out]
      exact ⟨rfl, HBE⟩
    | false =>
      by_cases hk0 : k = 0
      · have k5 : decide (0 < (k : Int)) = false := decide_eq_false (by omega)
        have k5' : decide (0 < k) = false := decide_eq_false (by omega)
        have HRN : Hid (chkD num set gone = chkGone (fS set) (prevS gone (k + 1)) (gone.drop (k + 1))) := Lib.hid (by
          rw [HRc.out, if_neg, HPK.out]
          rintro (h | h)
          · rw [hk0] at h; simp [prevS, notAbove] at h
          · have := HFS.out.2 h; cases this)
        go_upto_region 12 with (fail)
        refine start_ (n := 19) (S := (fun w' => w'.cell? ⟨g, 2, none⟩ = some (.slice (some ad) m cb))) (ds := []) #[false, false, false, false, false, false, false, false, false, false, false, false, false, false, false, false, false, false, false] (by kernel_rfl) rfl rfl t2 (fun hHeld => ?_)
        have HBd : Hid (Below W9.heap.size W9 W9.drew) := (Below.refl _ _).drew
        generalize W9.drew = WD at hHeld HBd ⊢
        refine pure_ (i := 0) (N := some 45) (v := ?_) (a' := ?_) #[true, false, false, false, false, false, false, false, false, false, false, false, false, false, false, false, false, false, false] rfl rfl (by kernel_rfl) (fun _ _ _ h => h) (Or.inl ⟨by rfl, ?_⟩) ?_ ?_
        rotate_left
        · intro w'
          go_simp
          with_reducible rfl
        rotate_left
        · simp only [Act.put, List.setIfInBounds_toArray, List.set_cons_zero, List.set_cons_succ]
          rfl
        refine pure_ (i := 1) (N := some 46) (v := ?_) (a' := ?_) #[true, true, false, false, false, false, false, false, false, false, false, false, false, false, false, false, false, false, false] rfl rfl (by kernel_rfl) (fun _ _ _ h => h) (Or.inl ⟨by rfl, ?_⟩) ?_ ?_
        rotate_left
        · intro w'
          go_simp
          with_reducible rfl
        rotate_left
        · simp only [Act.put, List.setIfInBounds_toArray, List.set_cons_zero, List.set_cons_succ]
          rfl
        refine pure_ (i := 2) (N := some 47) (v := ?_) (a' := ?_) #[true, true, true, false, false, false, false, false, false, false, false, false, false, false, false, false, false, false, false] rfl rfl (by kernel_rfl) (fun _ _ _ h => h) (Or.inl ⟨by rfl, ?_⟩) ?_ ?_
        rotate_left
        · intro w'
          go_simp
          with_reducible rfl
        rotate_left
        · simp only [Act.put, List.setIfInBounds_toArray, List.set_cons_zero, List.set_cons_succ]
          rfl
        refine pure_ (i := 3) (N := some 48) (v := ?_) (a' := ?_) #[true, true, true, true, false, false, false, false, false, false, false, false, false, false, false, false, false, false, false] rfl rfl (by kernel_rfl) (fun _ _ _ h => h) (Or.inl ⟨by rfl, ?_⟩) ?_ ?_
        rotate_left
        · intro w'
          go_simp
          with_reducible rfl
        rotate_left
        · simp only [Act.put, List.setIfInBounds_toArray, List.set_cons_zero, List.set_cons_succ]
          rfl
        refine pure_ (i := 4) (N := some 49) (v := ?_) (a' := ?_) #[true, true, true, true, true, false, false, false, false, false, false, false, false, false, false, false, false, false, false] rfl rfl (by kernel_rfl) (fun _ _ _ h => h) (Or.inl ⟨by rfl, ?_⟩) ?_ ?_
        rotate_left
        · intro w'
          go_simp
          with_reducible rfl
        rotate_left
        · simp only [Act.put, List.setIfInBounds_toArray, List.set_cons_zero, List.set_cons_succ]
          rfl
        refine pure_ (i := 5) (N := some 50) (v := undef) (a' := ?_) #[true, true, true, true, true, true, false, false, false, false, false, false, false, false, false, false, false, false, false] rfl rfl (by kernel_rfl) (fun _ _ _ h => h) (Or.inr ⟨by rfl, rfl⟩) ?_ ?_
        rotate_left
        · simp only [Act.put, List.setIfInBounds_toArray, List.set_cons_zero, List.set_cons_succ]
          rfl
        refine pure_ (i := 6) (N := some 51) (v := undef) (a' := ?_) #[true, true, true, true, true, true, true, false, false, false, false, false, false, false, false, false, false, false, false] rfl rfl (by kernel_rfl) (fun _ _ _ h => h) (Or.inr ⟨by rfl, rfl⟩) ?_ ?_
        rotate_left
        · simp only [Act.put, List.setIfInBounds_toArray, List.set_cons_zero, List.set_cons_succ]
          rfl
        refine pure_ (i := 7) (N := some 52) (v := undef) (a' := ?_) #[true, true, true, true, true, true, true, true, false, false, false, false, false, false, false, false, false, false, false] rfl rfl (by kernel_rfl) (fun _ _ _ h => h) (Or.inr ⟨by rfl, rfl⟩) ?_ ?_
        rotate_left
        · simp only [Act.put, List.setIfInBounds_toArray, List.set_cons_zero, List.set_cons_succ]
          rfl
        refine pure_ (i := 8) (N := some 53) (v := undef) (a' := ?_) #[true, true, true, true, true, true, true, true, true, false, false, false, false, false, false, false, false, false, false] rfl rfl (by kernel_rfl) (fun _ _ _ h => h) (Or.inr ⟨by rfl, rfl⟩) ?_ ?_
        rotate_left
        · simp only [Act.put, List.setIfInBounds_toArray, List.set_cons_zero, List.set_cons_succ]
          rfl
        refine pure_ (i := 9) (N := some 54) (v := undef) (a' := ?_) #[true, true, true, true, true, true, true, true, true, true, false, false, false, false, false, false, false, false, false] rfl rfl (by kernel_rfl) (fun _ _ _ h => h) (Or.inr ⟨by rfl, rfl⟩) ?_ ?_
        rotate_left
        · simp only [Act.put, List.setIfInBounds_toArray, List.set_cons_zero, List.set_cons_succ]
          rfl
        refine pure_ (i := 10) (N := some 55) (v := undef) (a' := ?_) #[true, true, true, true, true, true, true, true, true, true, true, false, false, false, false, false, false, false, false] rfl rfl (by kernel_rfl) (fun _ _ _ h => h) (Or.inr ⟨by rfl, rfl⟩) ?_ ?_
        rotate_left
        · simp only [Act.put, List.setIfInBounds_toArray, List.set_cons_zero, List.set_cons_succ]
          rfl
        refine pure_ (i := 11) (N := some 56) (v := undef) (a' := ?_) #[true, true, true, true, true, true, true, true, true, true, true, true, false, false, false, false, false, false, false] rfl rfl (by kernel_rfl) (fun _ _ _ h => h) (Or.inr ⟨by rfl, rfl⟩) ?_ ?_
        rotate_left
        · simp only [Act.put, List.setIfInBounds_toArray, List.set_cons_zero, List.set_cons_succ]
          rfl
        refine pure_ (i := 12) (N := some 57) (v := undef) (a' := ?_) #[true, true, true, true, true, true, true, true, true, true, true, true, true, false, false, false, false, false, false] rfl rfl (by kernel_rfl) (fun _ _ _ h => h) (Or.inr ⟨by rfl, rfl⟩) ?_ ?_
        rotate_left
        · simp only [Act.put, List.setIfInBounds_toArray, List.set_cons_zero, List.set_cons_succ]
          rfl
        refine pure_ (i := 13) (N := some 58) (v := undef) (a' := ?_) #[true, true, true, true, true, true, true, true, true, true, true, true, true, true, false, false, false, false, false] rfl rfl (by kernel_rfl) (fun _ _ _ h => h) (Or.inr ⟨by rfl, rfl⟩) ?_ ?_
        rotate_left
        · simp only [Act.put, List.setIfInBounds_toArray, List.set_cons_zero, List.set_cons_succ]
          rfl
        refine pure_ (i := 14) (N := some 59) (v := undef) (a' := ?_) #[true, true, true, true, true, true, true, true, true, true, true, true, true, true, true, false, false, false, false] rfl rfl (by kernel_rfl) (fun _ _ _ h => h) (Or.inr ⟨by rfl, rfl⟩) ?_ ?_
        rotate_left
        · simp only [Act.put, List.setIfInBounds_toArray, List.set_cons_zero, List.set_cons_succ]
          rfl
        refine pure_ (i := 15) (N := some 60) (v := undef) (a' := ?_) #[true, true, true, true, true, true, true, true, true, true, true, true, true, true, true, true, false, false, false] rfl rfl (by kernel_rfl) (fun _ _ _ h => h) (Or.inr ⟨by rfl, rfl⟩) ?_ ?_
        rotate_left
        · simp only [Act.put, List.setIfInBounds_toArray, List.set_cons_zero, List.set_cons_succ]
          rfl
        refine pure_ (i := 16) (N := some 61) (v := undef) (a' := ?_) #[true, true, true, true, true, true, true, true, true, true, true, true, true, true, true, true, true, false, false] rfl rfl (by kernel_rfl) (fun _ _ _ h => h) (Or.inr ⟨by rfl, rfl⟩) ?_ ?_
        rotate_left
        · simp only [Act.put, List.setIfInBounds_toArray, List.set_cons_zero, List.set_cons_succ]
          rfl
        refine pure_ (i := 17) (N := some 62) (v := ?_) (a' := ?_) #[true, true, true, true, true, true, true, true, true, true, true, true, true, true, true, true, true, true, false] rfl rfl (by kernel_rfl) (fun _ _ _ h => h) (Or.inl ⟨by rfl, ?_⟩) ?_ ?_
        rotate_left
        · intro w'
          go_simp
          with_reducible rfl
        rotate_left
        · simp only [Act.put, List.setIfInBounds_toArray, List.set_cons_zero, List.set_cons_succ]
          rfl
        refine pure_ (i := 18) (N := some 63) (v := ?_) (a' := ?_) #[true, true, true, true, true, true, true, true, true, true, true, true, true, true, true, true, true, true, true] rfl rfl (by kernel_rfl) (fun _ _ _ h => h) (Or.inl ⟨by rfl, ?_⟩) ?_ ?_
        rotate_left
        · intro w'
          go_simp
          with_reducible rfl
        rotate_left
        · simp only [Act.put, List.setIfInBounds_toArray, List.set_cons_zero, List.set_cons_succ]
          rfl
        refine done_ (by kernel_rfl) ?_
        clear k5 k5' hk0
        have HBE : Hid (Below w.heap.size w WD) := HB9w.out.trans (HBd.out.mono HB9w.out.size)
        have HXE := Lib.hid (blk_below HX9.out HBd.out)
        clear hHeld
        go_wp2_with (fail)
        go_roundw
        case rel => exact ⟨k + 1, by omega, by go_num, HRN, HBE, HXE⟩
        case measure => simp [intOf]; omega
      · obtain ⟨kk, hkk⟩ : ∃ kk, k = kk + 1 := ⟨k - 1, by omega⟩
        obtain ⟨ad2, hA2, p0⟩ := at_str HB.out kk (by rw [← Hm.out]; omega)
        obtain rfl : ad = ad2 := by injection hA2
        clear hA2
        have hpv : prevS gone k = some (gone.getD kk ⟨#[]⟩) := by rw [hkk]; unfold prevS; rw [if_neg (by omega)]; rfl
        have HPV : Hid (notAbove (prevS gone k) u = kle u (gone.getD kk ⟨#[]⟩)) := Lib.hid (by rw [hpv]; rfl)
        generalize gone.getD kk ⟨#[]⟩ = pv at *
        replace p0 := pw_cell_below HB9w.out p0
        have e0 : W9.cell? (ad.add k) = some (.string u) := pw_cell_below HB9w.out E0.out
        have k5 : (0 : Int) < (k : Int) := by omega
        have k5' : 0 < k := by omega
        have k7 : IntKind.i64.wrap (kk : Int) = (kk : Int) := by rw [IntKind.wrap_i64] <;> omega
        have k8 : (0 : Int) ≤ (kk : Int) := by omega
        have k9 : (kk : Int) < (m : Int) := by omega
        have k10 : (k : Int) - 1 = (kk : Int) := by omega
        have k11 : (0 : Int) ≤ (k : Int) := by omega
        have k12 : (k : Int) < (m : Int) := by omega
        clear hkk hk0 hpv
        generalize hbl : (Op.bytesLess u.toList pv.toList || u.toList == pv.toList) = bl
        have hbk : kle u pv = bl := hbl
        rw [hbk] at HPV
        go_upto_region 12 with (fail)
        refine start_ (n := 19) (S := (fun w' => w'.cell? ⟨g, 2, none⟩ = some (.slice (some ad) m cb) ∧ w'.cell? (ad.add k) = some (.string u) ∧ w'.cell? (ad.add kk) = some (.string pv))) (ds := []) #[false, false, false, false, false, false, false, false, false, false, false, false, false, false, false, false, false, false, false] (by kernel_rfl) rfl rfl ⟨t2, e0, p0⟩ (fun hHeld => ?_)
        have HBd : Hid (Below W9.heap.size W9 W9.drew) := (Below.refl _ _).drew
        generalize W9.drew = WD at hHeld HBd ⊢
        refine pure_ (i := 0) (N := some 45) (v := ?_) (a' := ?_) #[true, false, false, false, false, false, false, false, false, false, false, false, false, false, false, false, false, false, false] rfl rfl (by kernel_rfl) (fun _ _ _ h => h) (Or.inl ⟨by rfl, ?_⟩) ?_ ?_
        rotate_left
        · intro w'
          go_simp
          with_reducible rfl
        rotate_left
        · simp only [Act.put, List.setIfInBounds_toArray, List.set_cons_zero, List.set_cons_succ]
          rfl
        refine pure_ (i := 1) (N := some 46) (v := ?_) (a' := ?_) #[true, true, false, false, false, false, false, false, false, false, false, false, false, false, false, false, false, false, false] rfl rfl (by kernel_rfl) (fun _ _ _ h => h) (Or.inl ⟨by rfl, ?_⟩) ?_ ?_
        rotate_left
        · intro w'
          go_simp
          with_reducible rfl
        rotate_left
        · simp only [Act.put, List.setIfInBounds_toArray, List.set_cons_zero, List.set_cons_succ]
          rfl
        refine pure_ (i := 2) (N := some 47) (v := ?_) (a' := ?_) #[true, true, true, false, false, false, false, false, false, false, false, false, false, false, false, false, false, false, false] rfl rfl (by kernel_rfl) (fun _ _ _ h => h) (Or.inl ⟨by rfl, ?_⟩) ?_ ?_
        rotate_left
        · intro w'
          go_simp
          with_reducible rfl
        rotate_left
        · simp only [Act.put, List.setIfInBounds_toArray, List.set_cons_zero, List.set_cons_succ]
          rfl
        refine pure_ (i := 3) (N := some 48) (v := ?_) (a' := ?_) #[true, true, true, true, false, false, false, false, false, false, false, false, false, false, false, false, false, false, false] rfl rfl (by kernel_rfl) (fun _ _ _ h => h) (Or.inl ⟨by rfl, ?_⟩) ?_ ?_
        rotate_left
        · intro w'
          go_simp
          with_reducible rfl
        rotate_left
        · simp only [Act.put, List.setIfInBounds_toArray, List.set_cons_zero, List.set_cons_succ]
          rfl
        refine pure_ (i := 4) (N := some 49) (v := ?_) (a' := ?_) #[true, true, true, true, true, false, false, false, false, false, false, false, false, false, false, false, false, false, false] rfl rfl (by kernel_rfl) (fun _ _ _ h => h) (Or.inl ⟨by rfl, ?_⟩) ?_ ?_
        rotate_left
        · intro w'
          go_simp
          with_reducible rfl
        rotate_left
        · simp only [Act.put, List.setIfInBounds_toArray, List.set_cons_zero, List.set_cons_succ]
          rfl
        refine pure_ (i := 5) (N := some 50) (v := ?_) (a' := ?_) #[true, true, true, true, true, true, false, false, false, false, false, false, false, false, false, false, false, false, false] rfl rfl (by kernel_rfl) (fun _ _ _ h => h) (Or.inl ⟨by rfl, ?_⟩) ?_ ?_
        rotate_left
        · intro w'
          go_simp
          with_reducible rfl
        rotate_left
        · simp only [Act.put, List.setIfInBounds_toArray, List.set_cons_zero, List.set_cons_succ]
          rfl
        refine take_ (i := 6) (N := some 51) (v := ?_) (a' := ?_) #[true, true, true, true, true, true, true, false, false, false, false, false, false, false, false, false, false, false, false] rfl rfl (by kernel_rfl) (fun _ _ _ h => h) (Or.inl ⟨by rfl, ?_⟩) hHeld ?_ ?_
        rotate_left
        · rintro w' ⟨s0, s1, s2⟩
          go_simp
          with_reducible rfl
        rotate_left
        · simp only [Act.put, List.setIfInBounds_toArray, List.set_cons_zero, List.set_cons_succ]
          rfl
        refine pure_ (i := 7) (N := some 52) (v := ?_) (a' := ?_) #[true, true, true, true, true, true, true, true, false, false, false, false, false, false, false, false, false, false, false] rfl rfl (by kernel_rfl) (fun _ _ _ h => h) (Or.inl ⟨by rfl, ?_⟩) ?_ ?_
        rotate_left
        · intro w'
          go_simp
          with_reducible rfl
        rotate_left
        · simp only [Act.put, List.setIfInBounds_toArray, List.set_cons_zero, List.set_cons_succ]
          rfl
        refine pure_ (i := 8) (N := some 53) (v := ?_) (a' := ?_) #[true, true, true, true, true, true, true, true, true, false, false, false, false, false, false, false, false, false, false] rfl rfl (by kernel_rfl) (fun _ _ _ h => h) (Or.inl ⟨by rfl, ?_⟩) ?_ ?_
        rotate_left
        · intro w'
          go_simp
          with_reducible rfl
        rotate_left
        · simp only [Act.put, List.setIfInBounds_toArray, List.set_cons_zero, List.set_cons_succ]
          rfl
        refine take_ (i := 9) (N := some 54) (v := ?_) (a' := ?_) #[true, true, true, true, true, true, true, true, true, true, false, false, false, false, false, false, false, false, false] rfl rfl (by kernel_rfl) (fun _ _ _ h => h) (Or.inl ⟨by rfl, ?_⟩) hHeld ?_ ?_
        rotate_left
        · rintro w' ⟨s0, s1, s2⟩
          go_simp
          with_reducible rfl
        rotate_left
        · simp only [Act.put, List.setIfInBounds_toArray, List.set_cons_zero, List.set_cons_succ]
          rfl
        refine pure_ (i := 10) (N := some 55) (v := ?_) (a' := ?_) #[true, true, true, true, true, true, true, true, true, true, true, false, false, false, false, false, false, false, false] rfl rfl (by kernel_rfl) (fun _ _ _ h => h) (Or.inl ⟨by rfl, ?_⟩) ?_ ?_
        rotate_left
        · intro w'
          go_simp
          with_reducible rfl
        rotate_left
        · simp only [Act.put, List.setIfInBounds_toArray, List.set_cons_zero, List.set_cons_succ]
          rfl
        refine take_ (i := 11) (N := some 56) (v := ?_) (a' := ?_) #[true, true, true, true, true, true, true, true, true, true, true, true, false, false, false, false, false, false, false] rfl rfl (by kernel_rfl) (fun _ _ _ h => h) (Or.inl ⟨by rfl, ?_⟩) hHeld ?_ ?_
        rotate_left
        · rintro w' ⟨s0, s1, s2⟩
          go_simp
          with_reducible rfl
        rotate_left
        · simp only [Act.put, List.setIfInBounds_toArray, List.set_cons_zero, List.set_cons_succ]
          rfl
        refine pure_ (i := 12) (N := some 57) (v := ?_) (a' := ?_) #[true, true, true, true, true, true, true, true, true, true, true, true, true, false, false, false, false, false, false] rfl rfl (by kernel_rfl) (fun _ _ _ h => h) (Or.inl ⟨by rfl, ?_⟩) ?_ ?_
        rotate_left
        · intro w'
          go_simp
          with_reducible rfl
        rotate_left
        · simp only [Act.put, List.setIfInBounds_toArray, List.set_cons_zero, List.set_cons_succ]
          rfl
        refine pure_ (i := 13) (N := some 58) (v := ?_) (a' := ?_) #[true, true, true, true, true, true, true, true, true, true, true, true, true, true, false, false, false, false, false] rfl rfl (by kernel_rfl) (fun _ _ _ h => h) (Or.inl ⟨by rfl, ?_⟩) ?_ ?_
        rotate_left
        · intro w'
          go_simp
          with_reducible rfl
        rotate_left
        · simp only [Act.put, List.setIfInBounds_toArray, List.set_cons_zero, List.set_cons_succ]
          rfl
        refine pure_ (i := 14) (N := some 59) (v := ?_) (a' := ?_) #[true, true, true, true, true, true, true, true, true, true, true, true, true, true, true, false, false, false, false] rfl rfl (by kernel_rfl) (fun _ _ _ h => h) (Or.inl ⟨by rfl, ?_⟩) ?_ ?_
        rotate_left
        · intro w'
          go_simp
          with_reducible rfl
        rotate_left
        · simp only [Act.put, List.setIfInBounds_toArray, List.set_cons_zero, List.set_cons_succ]
          rfl
        refine take_ (i := 15) (N := some 60) (v := ?_) (a' := ?_) #[true, true, true, true, true, true, true, true, true, true, true, true, true, true, true, true, false, false, false] rfl rfl (by kernel_rfl) (fun _ _ _ h => h) (Or.inl ⟨by rfl, ?_⟩) hHeld ?_ ?_
        rotate_left
        · rintro w' ⟨s0, s1, s2⟩
          go_simp
          with_reducible rfl
        rotate_left
        · simp only [Act.put, List.setIfInBounds_toArray, List.set_cons_zero, List.set_cons_succ]
          rfl
        refine pure_ (i := 16) (N := some 61) (v := ?_) (a' := ?_) #[true, true, true, true, true, true, true, true, true, true, true, true, true, true, true, true, true, false, false] rfl rfl (by kernel_rfl) (fun _ _ _ h => h) (Or.inl ⟨by rfl, ?_⟩) ?_ ?_
        rotate_left
        · intro w'
          go_simp
          with_reducible rfl
        rotate_left
        · simp only [Act.put, List.setIfInBounds_toArray, List.set_cons_zero, List.set_cons_succ]
          rfl
        refine pure_ (i := 17) (N := some 62) (v := ?_) (a' := ?_) #[true, true, true, true, true, true, true, true, true, true, true, true, true, true, true, true, true, true, false] rfl rfl (by kernel_rfl) (fun _ _ _ h => h) (Or.inl ⟨by rfl, ?_⟩) ?_ ?_
        rotate_left
        · intro w'
          go_simp
          with_reducible rfl
        rotate_left
        · simp only [Act.put, List.setIfInBounds_toArray, List.set_cons_zero, List.set_cons_succ]
          rfl
        refine pure_ (i := 18) (N := some 63) (v := ?_) (a' := ?_) #[true, true, true, true, true, true, true, true, true, true, true, true, true, true, true, true, true, true, true] rfl rfl (by kernel_rfl) (fun _ _ _ h => h) (Or.inl ⟨by rfl, ?_⟩) ?_ ?_
        rotate_left
        · intro w'
          go_simp
          with_reducible rfl
        rotate_left
        · simp only [Act.put, List.setIfInBounds_toArray, List.set_cons_zero, List.set_cons_succ]
          rfl
        refine done_ (by kernel_rfl) ?_
        clear k5 k5' k7 k8 k9 k10 k11 k12 p0 e0 hbk
        try rw [hbl]
        clear hbl
        cases bl with
        | true =>
          have HRN : Hid (chkD num set gone = 112) := Lib.hid (HRc.out.trans (if_pos (.inl HPV.out)))
          have HBE : Hid (Below w.heap.size w WD) := HB9w.out.trans (HBd.out.mono HB9w.out.size)
          clear hHeld
          go_wp2_with (fail)
          go_ret
          rw [HRN.out]
          exact ⟨rfl, HBE⟩
        | false =>
          have HRN : Hid (chkD num set gone = chkGone (fS set) (prevS gone (k + 1)) (gone.drop (k + 1))) := Lib.hid (by
            rw [HRc.out, if_neg, HPK.out]
            rintro (h | h)
            · rw [HPV.out] at h; cases h
            · have := HFS.out.2 h; cases this)
          have HBE : Hid (Below w.heap.size w WD) := HB9w.out.trans (HBd.out.mono HB9w.out.size)
          have HXE := Lib.hid (blk_below HX9.out HBd.out)
          clear hHeld
          go_wp2_with (fail)
          go_roundw
          case rel => exact ⟨k + 1, by omega, by go_num, HRN, HBE, HXE⟩
          case measure => simp [intOf]; omega
end Go.Proofs.Ytpplnhefpcofoaa.PDeltaJoin
