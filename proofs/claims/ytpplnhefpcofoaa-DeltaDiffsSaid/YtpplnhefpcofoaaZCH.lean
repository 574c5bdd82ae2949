/- Two values compared. -/
import Derived.Test.YtpplnhefpcofoaaZCE
import Derived.Test.YtpplnhefpcofoaaZSB
namespace Go.Proofs.Ytpplnhefpcofoaa.PDeltaJoin
open Go.RowKit Go.Proofs.YtpplnhefpcofoaaW.PrintWords Go.Proofs.YtpplnhefpcofoaaW.PrintLast
set_option linter.unusedVariables false
set_option linter.unusedSimpArgs false

mutual
/-- Does the order tell 0? -/
def eqv (x y : S87) : Bool :=
  if x.f0 ≠ y.f0 then false else if x.f0 = 1 ∧ x.f1 ≠ y.f1 then false else if x.f0 = 2 ∧ x.f2 ≠ y.f2 then false else eqvL x.f3 y.f3
termination_by SizeOf.sizeOf x
decreasing_by cases x; simp; omega
def eqvL (l k : List S87) : Bool :=
  match l, k with
  | [], [] => true
  | x :: xs, y :: ys => if eqv x y = true then eqvL xs ys else false
  | _, _ => false
termination_by SizeOf.sizeOf l
decreasing_by all_goals (simp; try omega)
end
theorem eqv_eq (f0 f1 h0 h1 : Int) (f2 h2 : ByteArray) (f3 h3 : List S87) : eqv ⟨f0, f1, f2, f3⟩ ⟨h0, h1, h2, h3⟩ = if f0 ≠ h0 then false else if f0 = 1 ∧ f1 ≠ h1 then false else if f0 = 2 ∧ f2 ≠ h2 then false else eqvL f3 h3 := by rw [eqv]
theorem eqvL_nil : eqvL [] [] = true := by rw [eqvL]
theorem eqvL_cons (x y : S87) (xs ys : List S87) : eqvL (x :: xs) (y :: ys) = if eqv x y = true then eqvL xs ys else false := by rw [eqvL]
theorem eqvL_len : ∀ (l k : List S87), eqvL l k = true → l.length = k.length
  | [], [], _ => rfl
  | [], _ :: _, h => by unfold eqvL at h; cases h
  | _ :: _, [], h => by unfold eqvL at h; cases h
  | x :: xs, y :: ys, h => by
    rw [eqvL_cons] at h
    split at h
    · simp [eqvL_len xs ys h]
    · cases h
theorem eqvL_drop (l k : List S87) (i : Nat) (hl : i < l.length) (hk : i < k.length) : eqvL (l.drop i) (k.drop i) = if eqv (l.getD i z87) (k.getD i z87) = true then eqvL (l.drop (i + 1)) (k.drop (i + 1)) else false := by
  rw [List.drop_eq_getElem_cons hl, List.drop_eq_getElem_cons hk, eqvL_cons]
  simp [List.getD_eq_getElem?_getD, List.getElem?_eq_getElem hl, List.getElem?_eq_getElem hk]
/-- Of valid values: 0 just at equal ones. -/
theorem eqv_valid : ∀ (N : Nat), (∀ (x y : S87) (dx px dy py : Nat), SizeOf.sizeOf x ≤ N → (chkV x dx px).1 = 0 → (chkV y dy py).1 = 0 → eqv x y = true → x = y) ∧ (∀ (l k : List S87) (dl pl dk pk : Nat), SizeOf.sizeOf l ≤ N → (chkL l dl pl).1 = 0 → (chkL k dk pk).1 = 0 → eqvL l k = true → l = k)
  | 0 => ⟨fun x => by cases x; intro y _ _ _ _ h; simp at h, fun l => by cases l <;> (intro k _ _ _ _ h; simp at h)⟩
  | N + 1 => by
    obtain ⟨iv, il⟩ := eqv_valid N
    refine ⟨fun x y dx px dy py h hx hy he => ?_, fun l k dl pl dk pk h hl hk he => ?_⟩
    · obtain ⟨f0, f1, f2, f3⟩ := x
      obtain ⟨h0, h1, h2, h3⟩ := y
      rw [eqv_eq] at he
      rw [chkV_eq _ _ _ _ _ _ _ rfl] at hx hy
      split at he <;> try (cases he; done)
      rename_i e0
      split at he <;> try (cases he; done)
      rename_i e1
      split at he <;> try (cases he; done)
      rename_i e2
      split at hx <;> try (simp at hx; done)
      split at hx <;> try (simp at hx; done)
      split at hx <;> try (simp at hx; done)
      rename_i _ _ c3
      split at hx <;> try (simp at hx; done)
      split at hx <;> try (simp at hx; done)
      split at hx <;> try (simp at hx; done)
      split at hy <;> try (simp at hy; done)
      split at hy <;> try (simp at hy; done)
      split at hy <;> try (simp at hy; done)
      rename_i _ _ d3
      split at hy <;> try (simp at hy; done)
      split at hy <;> try (simp at hy; done)
      split at hy <;> try (simp at hy; done)
      have e3 := il f3 h3 _ _ _ _ (by simp at h; omega) hx hy he
      have e0' : f0 = h0 := by simpa using e0
      subst e3
      subst e0'
      have e1' : f1 = h1 := by
        by_cases hk1 : f0 = 1
        · by_cases q : f1 = h1
          · exact q
          · exact absurd ⟨hk1, q⟩ e1
        · by_cases q : f1 = 0
          · by_cases q' : h1 = 0
            · rw [q, q']
            · exact absurd (.inl ⟨q', hk1⟩) d3
          · exact absurd (.inl ⟨q, hk1⟩) c3
      have e2' : f2 = h2 := by
        by_cases hk1 : f0 = 2
        · by_cases q : f2 = h2
          · exact q
          · exact absurd ⟨hk1, q⟩ e2
        · by_cases q : f2 = ⟨#[]⟩
          · by_cases q' : h2 = ⟨#[]⟩
            · rw [q, q']
            · exact absurd (.inr (.inl ⟨q', hk1⟩)) d3
          · exact absurd (.inr (.inl ⟨q, hk1⟩)) c3
      rw [e1', e2']
    · cases l with
      | nil =>
        cases k with
        | nil => rfl
        | cons y ys => have := eqvL_len _ _ he; simp at this
      | cons x xs =>
        cases k with
        | nil => have := eqvL_len _ _ he; simp at this
        | cons y ys =>
          rw [eqvL_cons] at he
          rw [chkL_cons] at hl hk
          split at he
          · rename_i e1
            split at hl
            · rename_i q; exact absurd hl q
            · rename_i q1
              split at hk
              · rename_i q; exact absurd hk q
              · rename_i q2
                simp at h
                rw [iv x y _ _ _ _ (by omega) (by simpa using q1) (by simpa using q2) e1, il xs ys _ _ _ _ (by omega) hl hk he]
          · cases he
theorem eqv_refl : ∀ (N : Nat), (∀ (x : S87), SizeOf.sizeOf x ≤ N → eqv x x = true) ∧ (∀ (l : List S87), SizeOf.sizeOf l ≤ N → eqvL l l = true)
  | 0 => ⟨fun x => by cases x; intro h; simp at h, fun l => by cases l <;> (intro h; simp at h)⟩
  | N + 1 => by
    obtain ⟨iv, il⟩ := eqv_refl N
    refine ⟨fun x h => ?_, fun l h => ?_⟩
    · obtain ⟨f0, f1, f2, f3⟩ := x
      rw [eqv_eq, if_neg (by simp), if_neg (by simp), if_neg (by simp)]
      exact il f3 (by simp at h; omega)
    · cases l with
      | nil => exact eqvL_nil
      | cons x xs =>
        simp at h
        rw [eqvL_cons, if_pos (iv x (by omega))]
        exact il xs (by omega)
/-- A number that is 0 just if bl. -/
def Tells (bl : Bool) (w : World) (e : Ending) (w' : World) : Prop := ∃ r : Int, e = .returned (.int .i64 r) ∧ (r = 0 ↔ bl = true) ∧ Hid (Below w.heap.size w w')
set_option maxRecDepth 100000 in
set_option maxHeartbeats 16000000 in
theorem sign65 (bl : Bool) (w : World) : Calls Try.prog 65 #[.bool bl] w fun e w' => (∃ r : Int, e = .returned (.int .i64 r) ∧ r ≠ 0) ∧ w = w' := by
  cases bl
  · go_enter Try.func65, Try.ntmps65
    go_wp2_with (fail)
    go_ret
    exact ⟨⟨_, rfl, by decide⟩, rfl⟩
  · go_enter Try.func65, Try.ntmps65
    go_wp2_with (fail)
    go_ret
    exact ⟨⟨_, rfl, by decide⟩, rfl⟩
set_option maxRecDepth 100000 in
set_option maxHeartbeats 16000000 in
theorem order61 : ∀ (N : Nat) (x y : S87), SizeOf.sizeOf x ≤ N → ∀ (A B : Option Addr) (c d : Nat) (w0 w : World), Kd.C k87 w0 A x.f3.length x.f3 → Kd.C k87 w0 B y.f3.length y.f3 → Below w0.heap.size w0 w →
    Calls Try.prog 61 #[.agg #[.int .i64 x.f0, .int .i64 x.f1, .string x.f2, .slice A x.f3.length c], .agg #[.int .i64 y.f0, .int .i64 y.f1, .string y.f2, .slice B y.f3.length d]] w fun e w' => Tells (eqv x y) w e w' := by
  intro N
  induction N with
  | zero => intro x y h; cases x; simp at h
  | succ N ih =>
    intro x y hN A B c d w0 w hA hB hW
    obtain ⟨f0, f1, f2, f3⟩ := x
    obtain ⟨h0, h1, h2, h3⟩ := y
    dsimp only at hA hB hN ⊢
    obtain ⟨n, hn⟩ : ∃ n, n = f3.length := ⟨_, rfl⟩
    obtain ⟨m, hm⟩ : ∃ m, m = h3.length := ⟨_, rfl⟩
    have HA := Lib.hid hA
    have HBB := Lib.hid hB
    have HW := Lib.hid hW
    have Hn := Lib.hid hn
    have Hm := Lib.hid hm
    have IH := Lib.hid ih
    have HN := Lib.hid hN
    have hnm : n ≤ 9223372036854775807 := by rw [hn]; exact Kd.C_max hA
    have hmm : m ≤ 9223372036854775807 := by rw [hm]; exact Kd.C_max hB
    rw [← hn, ← hm]
    clear hA hB hW hn hm ih hN
    have HX : Hid (((w.alloc (.cells #[.int .i64 f0, .int .i64 f1, .string f2, .slice A n c] 87)).alloc (.cells #[.int .i64 h0, .int .i64 h1, .string h2, .slice B m d] 87)).heap[w.heap.size]? = some (.cells #[.int .i64 f0, .int .i64 f1, .string f2, .slice A n c] 87 (0, 0))) := Lib.hid (blk_alloc (blk_new w _) _)
    have HY : Hid (((w.alloc (.cells #[.int .i64 f0, .int .i64 f1, .string f2, .slice A n c] 87)).alloc (.cells #[.int .i64 h0, .int .i64 h1, .string h2, .slice B m d] 87)).heap[w.heap.size + 1]? = some (.cells #[.int .i64 h0, .int .i64 h1, .string h2, .slice B m d] 87 (0, 0))) := Lib.hid (by
      have := blk_new (w.alloc (.cells #[.int .i64 f0, .int .i64 f1, .string f2, .slice A n c] 87)) (.cells #[.int .i64 h0, .int .i64 h1, .string h2, .slice B m d] 87)
      rw [World.size_alloc] at this
      exact this)
    have HB : Hid (Below w.heap.size w ((w.alloc (.cells #[.int .i64 f0, .int .i64 f1, .string f2, .slice A n c] 87)).alloc (.cells #[.int .i64 h0, .int .i64 h1, .string h2, .slice B m d] 87))) := ((Below.refl _ _).alloc (Nat.le_refl _) _).alloc (by simp) _
    go_enter Try.func61, Try.ntmps61
    go_upto_block 0 with (fail)
    generalize ((w.alloc (.cells #[.int .i64 f0, .int .i64 f1, .string f2, .slice A n c] 87)).alloc (.cells #[.int .i64 h0, .int .i64 h1, .string h2, .slice B m d] 87)) = wa at *
    have x0 : wa.cell? ⟨w.heap.size, 0, none⟩ = some (.int .i64 f0) := blk_at HX.out 0 rfl
    have x1 : wa.cell? ⟨w.heap.size, 1, none⟩ = some (.int .i64 f1) := blk_at HX.out 1 rfl
    have x2 : wa.cell? ⟨w.heap.size, 2, none⟩ = some (.string f2) := blk_at HX.out 2 rfl
    have x3 : wa.cell? ⟨w.heap.size, 3, none⟩ = some (.slice A n c) := blk_at HX.out 3 rfl
    have y0 : wa.cell? ⟨(w.heap.size + 1), 0, none⟩ = some (.int .i64 h0) := blk_at HY.out 0 rfl
    have y1 : wa.cell? ⟨(w.heap.size + 1), 1, none⟩ = some (.int .i64 h1) := blk_at HY.out 1 rfl
    have y2 : wa.cell? ⟨(w.heap.size + 1), 2, none⟩ = some (.string h2) := blk_at HY.out 2 rfl
    have y3 : wa.cell? ⟨(w.heap.size + 1), 3, none⟩ = some (.slice B m d) := blk_at HY.out 3 rfl
    go_cut [] (fun wx => wx = wa ∧ Hid (eqv ⟨f0, f1, f2, f3⟩ ⟨h0, h1, h2, h3⟩ = eqvL f3 h3))
    case first =>
      by_cases e0 : f0 = h0
      rotate_left
      · have HV : Hid (eqv ⟨f0, f1, f2, f3⟩ ⟨h0, h1, h2, h3⟩ = false) := Lib.hid (by rw [eqv_eq, if_pos e0])
        have k1 : (f0 == h0) = false := beq_false_of_ne e0
        have k2 : (f0 != h0) = true := by simp [e0]
        clear e0
        go_wp2_with (go_at_call 65; refine (sign65 _ _).mono ?_; rintro e w2 ⟨⟨r, rfl, hr0⟩, rfl⟩
                     have HR0 := Lib.hid hr0
                     clear hr0)
        go_ret
        exact ⟨r, rfl, by rw [HV.out]; exact ⟨fun h => absurd h HR0.out, fun h => by cases h⟩, HB⟩
      subst e0
      by_cases e1 : f0 = 1
      · subst e1
        by_cases e2 : f1 = h1
        · subst e2
          have HV : Hid (eqv ⟨1, f1, f2, f3⟩ ⟨1, f1, h2, h3⟩ = eqvL f3 h3) := Lib.hid (by rw [eqv_eq, if_neg (by simp), if_neg (by simp), if_neg (by simp)])
          go_wp2_with (fail)
          go_meet
          exact ⟨rfl, HV⟩
        have HV : Hid (eqv ⟨1, f1, f2, f3⟩ ⟨1, h1, h2, h3⟩ = false) := Lib.hid (by rw [eqv_eq, if_neg (by simp), if_pos ⟨rfl, e2⟩])
        have k1 : (f1 == h1) = false := beq_false_of_ne e2
        have k2 : (f1 != h1) = true := by simp [e2]
        clear e2
        go_wp2_with (go_at_call 65; refine (sign65 _ _).mono ?_; rintro e w2 ⟨⟨r, rfl, hr0⟩, rfl⟩
                     have HR0 := Lib.hid hr0
                     clear hr0)
        go_ret
        exact ⟨r, rfl, by rw [HV.out]; exact ⟨fun h => absurd h HR0.out, fun h => by cases h⟩, HB⟩
      have k1 : (f0 == 1) = false := beq_false_of_ne e1
      by_cases e3 : f0 = 2
      · subst e3
        by_cases e2 : f2 = h2
        · subst e2
          have HV : Hid (eqv ⟨2, f1, f2, f3⟩ ⟨2, h1, f2, h3⟩ = eqvL f3 h3) := Lib.hid (by rw [eqv_eq, if_neg (by simp), if_neg (by simp), if_neg (by simp)])
          clear e1
          go_wp2_with (fail)
          go_meet
          exact ⟨rfl, HV⟩
        have HV : Hid (eqv ⟨2, f1, f2, f3⟩ ⟨2, h1, h2, h3⟩ = false) := Lib.hid (by rw [eqv_eq, if_neg (by simp), if_neg (by simp), if_pos ⟨rfl, e2⟩])
        have k3 : ¬ f2.toList = h2.toList := fun e => e2 (by
          rw [ByteArray.toList_eq, ByteArray.toList_eq] at e
          obtain ⟨⟨a⟩⟩ := f2
          obtain ⟨⟨b⟩⟩ := h2
          simp at e
          rw [e])
        have k4 : (f2.toList == h2.toList) = false := beq_eq_false_iff_ne.2 k3
        clear e2 e1
        go_wp2_with (go_at_call 65; refine (sign65 _ _).mono ?_; rintro e w2 ⟨⟨r, rfl, hr0⟩, rfl⟩
                     have HR0 := Lib.hid hr0
                     clear hr0)
        go_ret
        exact ⟨r, rfl, by rw [HV.out]; exact ⟨fun h => absurd h HR0.out, fun h => by cases h⟩, HB⟩
      have k2 : (f0 == 2) = false := beq_false_of_ne e3
      have HV : Hid (eqv ⟨f0, f1, f2, f3⟩ ⟨f0, h1, h2, h3⟩ = eqvL f3 h3) := Lib.hid (by rw [eqv_eq, if_neg (by simp), if_neg (by simp [e1]), if_neg (by simp [e3])])
      clear e1 e3
      go_wp2_with (fail)
      go_meet
      exact ⟨rfl, HV⟩
    case rest =>
    obtain ⟨rfl, HV⟩ := hcut
    obtain ⟨ev, hev⟩ : ∃ ev, ev = eqv ⟨f0, f1, f2, f3⟩ ⟨h0, h1, h2, h3⟩ := ⟨_, rfl⟩
    have HEV := Lib.hid hev
    rw [← hev] at HV
    clear hev
    by_cases hmn : m < n
    · have q1 : decide (m < n) = true := decide_eq_true hmn
      go_wp2_with (fail)
      clear x0 x1 x2 x3 y0 y1 y2 y3 q1
      go_loopw [5, 6, 60] (fun v5 v6 v60 wr => ∃ k : Nat, k ≤ m ∧ v60 = .int .i64 k ∧ Hid (ev = eqvL (f3.drop k) (h3.drop k)) ∧ Hid (Below w.heap.size w wr) ∧ Hid (wr.heap[w.heap.size]? = some (.cells #[.int .i64 f0, .int .i64 f1, .string f2, .slice A n c] 87 (0, 0))) ∧ Hid (wr.heap[w.heap.size + 1]? = some (.cells #[.int .i64 h0, .int .i64 h1, .string h2, .slice B m d] 87 (0, 0)))) (fun _ _ v60 _ => m - (intOf v60).toNat)
      case atStart => exact ⟨0, Nat.zero_le _, rfl, HV, HB, HX, HY⟩
      case round =>
        clear HV HB HX HY
        obtain ⟨k, hk, rfl, HVk, HBk, HXk, HYk⟩ := hrel
        by_cases hlt : k < m
        rotate_left
        · obtain rfl : m = k := by omega
          have x3 : wr.cell? ⟨w.heap.size, 3, none⟩ = some (.slice A n c) := blk_at HXk.out 3 rfl
          have y3 : wr.cell? ⟨w.heap.size + 1, 3, none⟩ = some (.slice B m d) := blk_at HYk.out 3 rfl
          have k1 : (n == m) = false := beq_false_of_ne (by omega)
          have HE : Hid (ev = false) := Lib.hid (by
            cases he : ev with
            | false => rfl
            | true => have := eqvL_len _ _ (HVk.out.symm.trans he); rw [List.length_drop, List.length_drop, ← Hn.out, ← Hm.out] at this; omega)
          have k2 : (n != m) = true := by simp; omega
          have k3 : ((n : Int) == (m : Int)) = false := beq_false_of_ne (by omega)
          have k4 : ((n : Int) != (m : Int)) = true := by simp; omega
          go_wp2_with (go_at_call 65; refine (sign65 _ _).mono ?_; rintro e w2 ⟨⟨r, rfl, hr0⟩, rfl⟩
                       have HR0 := Lib.hid hr0
                       clear hr0)
          go_ret
          exact ⟨r, rfl, by rw [← HEV.out, HE.out]; exact ⟨fun h => absurd h HR0.out, fun h => by cases h⟩, HBk⟩
        obtain ⟨ad, A3, c3, hA3, e0, e1, e2, e3, hl3, hC3⟩ := at_T87 HA.out (k : Int) (by omega) (by rw [← Hn.out]; omega)
        obtain ⟨bd, B3, d3, hB3, p0, p1, p2, p3, hl4, hC4⟩ := at_T87 HBB.out (k : Int) (by omega) (by rw [← Hm.out]; omega)
        subst hA3
        subst hB3
        have hmem : rd_T87 f3 (k : Int) ∈ f3 := getD_mem _ _ _ (by rw [Int.toNat_natCast, ← Hn.out]; omega)
        have hdr := eqvL_drop f3 h3 k (by rw [← Hn.out]; omega) (by rw [← Hm.out]; omega)
        have hx1 : f3.getD k z87 = rd_T87 f3 (k : Int) := by unfold rd_T87; rw [Int.toNat_natCast]
        have hx2 : h3.getD k z87 = rd_T87 h3 (k : Int) := by unfold rd_T87; rw [Int.toNat_natCast]
        rw [hx1, hx2] at hdr
        clear hx1 hx2
        generalize rd_T87 f3 (k : Int) = x at *
        generalize rd_T87 h3 (k : Int) = y at *
        rw [Int.toNat_natCast] at e0 e1 e2 e3 p0 p1 p2 p3
        have HWk : Hid (Below w0.heap.size w0 wr) := HW.out.trans (HBk.out.mono HW.out.size)
        replace e0 := pw_cell_below HWk.out e0
        replace e1 := pw_cell_below HWk.out e1
        replace e2 := pw_cell_below HWk.out e2
        replace e3 := pw_cell_below HWk.out e3
        replace p0 := pw_cell_below HWk.out p0
        replace p1 := pw_cell_below HWk.out p1
        replace p2 := pw_cell_below HWk.out p2
        replace p3 := pw_cell_below HWk.out p3
        have HY := Lib.hid (IH.out x y (by have := List.sizeOf_lt_of_mem hmem; have := HN.out; simp at this; omega) A3 B3 c3 d3 w0 wr.drew hC3 hC4 HWk.out.drew)
        have HDR := Lib.hid hdr
        have b3 : wr.cell? ⟨w.heap.size, 3, none⟩ = some (.slice (some ad) n c) := blk_at HXk.out 3 rfl
        have b7 : wr.cell? ⟨w.heap.size + 1, 3, none⟩ = some (.slice (some bd) m d) := blk_at HYk.out 3 rfl
        have i0 : (0 : Int) ≤ (k : Int) := by omega
        have i1 : (k : Int) < (n : Int) := by omega
        have i2 : (k : Int) < (m : Int) := by omega
        clear hmem hdr hC3 hC4 hl3 hl4
        go_upto_region 10 with (fail)
        refine start_ (n := 12) (S := (fun w' => w'.cell? ⟨w.heap.size, 3, none⟩ = some (.slice (some ad) n c) ∧ w'.cell? ⟨w.heap.size + 1, 3, none⟩ = some (.slice (some bd) m d) ∧ w'.cell? (ad.add (k * 4)) = some (.int .i64 x.f0) ∧ w'.cell? ⟨(ad.add (k * 4)).block, (ad.add (k * 4)).off + 1, none⟩ = some (.int .i64 x.f1) ∧ w'.cell? ⟨(ad.add (k * 4)).block, (ad.add (k * 4)).off + 2, none⟩ = some (.string x.f2) ∧ w'.cell? ⟨(ad.add (k * 4)).block, (ad.add (k * 4)).off + 3, none⟩ = some (.slice A3 x.f3.length c3) ∧ w'.cell? (bd.add (k * 4)) = some (.int .i64 y.f0) ∧ w'.cell? ⟨(bd.add (k * 4)).block, (bd.add (k * 4)).off + 1, none⟩ = some (.int .i64 y.f1) ∧ w'.cell? ⟨(bd.add (k * 4)).block, (bd.add (k * 4)).off + 2, none⟩ = some (.string y.f2) ∧ w'.cell? ⟨(bd.add (k * 4)).block, (bd.add (k * 4)).off + 3, none⟩ = some (.slice B3 y.f3.length d3))) (ds := [10]) #[false, false, false, false, false, false, false, false, false, false, false, false] (by kernel_rfl) rfl rfl ⟨b3, b7, e0, e1, e2, e3, p0, p1, p2, p3⟩ (fun hHeld => ?_)
        refine pure_ (i := 0) (N := some 63) (v := ?_) (a' := ?_) #[true, false, false, false, false, false, false, false, false, false, false, false] rfl rfl (by kernel_rfl) (fun _ _ _ h => h) (Or.inl ⟨by rfl, ?_⟩) ?_ ?_
        rotate_left
        · intro w'
          go_simp
          with_reducible rfl
        rotate_left
        · go_simp
          rfl
        refine take_ (i := 1) (N := some 64) (v := ?_) (a' := ?_) #[true, true, false, false, false, false, false, false, false, false, false, false] rfl rfl (by kernel_rfl) (fun _ _ _ h => h) (Or.inl ⟨by rfl, ?_⟩) hHeld ?_ ?_
        rotate_left
        · rintro w' ⟨s0, s1, s2, s3, s4, s5, s6, s7, s8, s9⟩
          go_simp
          with_reducible rfl
        rotate_left
        · go_simp
          rfl
        refine pure_ (i := 2) (N := some 65) (v := ?_) (a' := ?_) #[true, true, true, false, false, false, false, false, false, false, false, false] rfl rfl (by kernel_rfl) (fun _ _ _ h => h) (Or.inl ⟨by rfl, ?_⟩) ?_ ?_
        rotate_left
        · intro w'
          go_simp
          with_reducible rfl
        rotate_left
        · go_simp
          rfl
        refine pure_ (i := 3) (N := some 66) (v := ?_) (a' := ?_) #[true, true, true, true, false, false, false, false, false, false, false, false] rfl rfl (by kernel_rfl) (fun _ _ _ h => h) (Or.inl ⟨by rfl, ?_⟩) ?_ ?_
        rotate_left
        · intro w'
          go_simp
          with_reducible rfl
        rotate_left
        · go_simp
          rfl
        refine take_ (i := 4) (N := some 67) (v := ?_) (a' := ?_) #[true, true, true, true, true, false, false, false, false, false, false, false] rfl rfl (by kernel_rfl) (fun _ _ _ h => h) (Or.inl ⟨by rfl, ?_⟩) hHeld ?_ ?_
        rotate_left
        · rintro w' ⟨s0, s1, s2, s3, s4, s5, s6, s7, s8, s9⟩
          go_simp
          with_reducible rfl
        rotate_left
        · go_simp
          rfl
        refine pure_ (i := 5) (N := some 68) (v := ?_) (a' := ?_) #[true, true, true, true, true, true, false, false, false, false, false, false] rfl rfl (by kernel_rfl) (fun _ _ _ h => h) (Or.inl ⟨by rfl, ?_⟩) ?_ ?_
        rotate_left
        · intro w'
          go_simp
          with_reducible rfl
        rotate_left
        · go_simp
          rfl
        refine take_ (i := 6) (N := some 69) (v := ?_) (a' := ?_) #[true, true, true, true, true, true, true, false, false, false, false, false] rfl rfl (by kernel_rfl) (fun _ _ _ h => h) (Or.inl ⟨by rfl, ?_⟩) hHeld ?_ ?_
        rotate_left
        · rintro w' ⟨s0, s1, s2, s3, s4, s5, s6, s7, s8, s9⟩
          go_simp
          with_reducible rfl
        rotate_left
        · go_simp
          rfl
        refine pure_ (i := 7) (N := some 70) (v := ?_) (a' := ?_) #[true, true, true, true, true, true, true, true, false, false, false, false] rfl rfl (by kernel_rfl) (fun _ _ _ h => h) (Or.inl ⟨by rfl, ?_⟩) ?_ ?_
        rotate_left
        · intro w'
          go_simp
          with_reducible rfl
        rotate_left
        · go_simp
          rfl
        refine pure_ (i := 8) (N := some 71) (v := ?_) (a' := ?_) #[true, true, true, true, true, true, true, true, true, false, false, false] rfl rfl (by kernel_rfl) (fun _ _ _ h => h) (Or.inl ⟨by rfl, ?_⟩) ?_ ?_
        rotate_left
        · intro w'
          go_simp
          with_reducible rfl
        rotate_left
        · go_simp
          rfl
        refine take_ (i := 9) (N := some 72) (v := ?_) (a' := ?_) #[true, true, true, true, true, true, true, true, true, true, false, false] rfl rfl (by kernel_rfl) (fun _ _ _ h => h) (Or.inl ⟨by rfl, ?_⟩) hHeld ?_ ?_
        rotate_left
        · rintro w' ⟨s0, s1, s2, s3, s4, s5, s6, s7, s8, s9⟩
          go_simp
          with_reducible rfl
        rotate_left
        · go_simp
          rfl
        refine last_ (i := 10) (N := some 73) #[true, true, true, true, true, true, true, true, true, true, true, false] rfl rfl (by kernel_rfl) (by decide) (fun K hK => ?_)
        refine goes_ Try.func61 (by kernel_rfl) rfl #[.agg #[.int .i64 x.f0, .int .i64 x.f1, .string x.f2, .slice A3 x.f3.length c3], .agg #[.int .i64 y.f0, .int .i64 y.f1, .string y.f2, .slice B3 y.f3.length d3]] (by rfl) rfl rfl (by simp only [List.map_toArray, List.map_cons, List.map_nil]; rfl) ?_
        refine HY.out.mono ?_
        rintro e w2 ⟨r, rfl, hr, hb2⟩
        refine ⟨_, rfl, ?_⟩
        refine hK.out _ _ ?_
        clear hK K hHeld
        have HR1 := Lib.hid hr
        have HB2 : Hid (Below w.heap.size w w2) := Lib.hid (HBk.out.trans (((Below.refl _ wr).drew.trans hb2.out).mono HBk.out.size))
        have HX2 := Lib.hid (blk_below HXk.out ((Below.refl _ wr).drew.trans hb2.out))
        have HX3 := Lib.hid (blk_below HYk.out ((Below.refl _ wr).drew.trans hb2.out))
        clear hr hb2
        refine norm_ (a' := ?_) ?_ ?_
        rotate_left
        · show Act.put _ (some 73) _ = _
          go_simp
          rfl
        refine pure_ (i := 11) (N := some 6) (v := ?_) (a' := ?_) #[true, true, true, true, true, true, true, true, true, true, true, true] rfl rfl (by kernel_rfl) (fun _ _ _ h => h) (Or.inl ⟨by rfl, ?_⟩) ?_ ?_
        rotate_left
        · intro w'
          go_simp
          with_reducible rfl
        rotate_left
        · go_simp
          rfl
        refine done_ (by kernel_rfl) ?_

        clear e0 e1 e2 e3 p0 p1 p2 p3 b3 b7 i0 i1 i2
        by_cases hr0 : r = 0
        · have HV2 : Hid (ev = eqvL (f3.drop (k + 1)) (h3.drop (k + 1))) := Lib.hid (by rw [HVk.out, HDR.out, if_pos (HR1.out.1 hr0)])
          subst hr0
          go_wp2_with (fail)
          go_roundw
          case rel => exact ⟨k + 1, by omega, by go_num, HV2, HB2, HX2, HX3⟩
          case measure => simp [intOf]; omega
        · have HV2 : Hid (ev = false) := Lib.hid (by rw [HVk.out, HDR.out, if_neg (fun e => hr0 (HR1.out.2 e))])
          have HRN := Lib.hid hr0
          have k1 : (r == 0) = false := beq_false_of_ne hr0
          have k2 : (r != 0) = true := by simp [hr0]
          clear hr0
          go_wp2_with (fail)
          go_ret
          exact ⟨r, rfl, by rw [← HEV.out, HV2.out]; exact ⟨fun h => absurd h HRN.out, fun h => by cases h⟩, HB2⟩
    · have q1 : decide (m < n) = false := decide_eq_false hmn
      go_wp2_with (fail)
      clear x0 x1 x2 x3 y0 y1 y2 y3 q1
      go_loopw [5, 6, 60] (fun v5 v6 v60 wr => ∃ k : Nat, k ≤ n ∧ v60 = .int .i64 k ∧ Hid (ev = eqvL (f3.drop k) (h3.drop k)) ∧ Hid (Below w.heap.size w wr) ∧ Hid (wr.heap[w.heap.size]? = some (.cells #[.int .i64 f0, .int .i64 f1, .string f2, .slice A n c] 87 (0, 0))) ∧ Hid (wr.heap[w.heap.size + 1]? = some (.cells #[.int .i64 h0, .int .i64 h1, .string h2, .slice B m d] 87 (0, 0)))) (fun _ _ v60 _ => n - (intOf v60).toNat)
      case atStart => exact ⟨0, Nat.zero_le _, rfl, HV, HB, HX, HY⟩
      case round =>
        clear HV HB HX HY
        obtain ⟨k, hk, rfl, HVk, HBk, HXk, HYk⟩ := hrel
        by_cases hlt : k < n
        rotate_left
        · obtain rfl : n = k := by omega
          have x3 : wr.cell? ⟨w.heap.size, 3, none⟩ = some (.slice A n c) := blk_at HXk.out 3 rfl
          have y3 : wr.cell? ⟨w.heap.size + 1, 3, none⟩ = some (.slice B m d) := blk_at HYk.out 3 rfl
          by_cases hnm3 : n = m
          · subst hnm3
            have HE : Hid (ev = true) := Lib.hid (by rw [HVk.out, List.drop_eq_nil_of_le (by rw [← Hn.out]; exact Nat.le_refl _), List.drop_eq_nil_of_le (by rw [← Hm.out]; exact Nat.le_refl _), eqvL_nil])
            go_wp2_with (fail)
            go_ret
            exact ⟨0, rfl, by rw [← HEV.out, HE.out]; exact ⟨fun _ => rfl, fun _ => rfl⟩, HBk⟩
          · skip
            have k1 : (n == m) = false := beq_false_of_ne (by omega)
            have HE : Hid (ev = false) := Lib.hid (by
              cases he : ev with
              | false => rfl
              | true => have := eqvL_len _ _ (HVk.out.symm.trans he); rw [List.length_drop, List.length_drop, ← Hn.out, ← Hm.out] at this; omega)
            have k2 : (n != m) = true := by simp; omega
            have k3 : ((n : Int) == (m : Int)) = false := beq_false_of_ne (by omega)
            have k4 : ((n : Int) != (m : Int)) = true := by simp; omega
            go_wp2_with (go_at_call 65; refine (sign65 _ _).mono ?_; rintro e w2 ⟨⟨r, rfl, hr0⟩, rfl⟩
                         have HR0 := Lib.hid hr0
                         clear hr0)
            go_ret
            exact ⟨r, rfl, by rw [← HEV.out, HE.out]; exact ⟨fun h => absurd h HR0.out, fun h => by cases h⟩, HBk⟩
        obtain ⟨ad, A3, c3, hA3, e0, e1, e2, e3, hl3, hC3⟩ := at_T87 HA.out (k : Int) (by omega) (by rw [← Hn.out]; omega)
        obtain ⟨bd, B3, d3, hB3, p0, p1, p2, p3, hl4, hC4⟩ := at_T87 HBB.out (k : Int) (by omega) (by rw [← Hm.out]; omega)
        subst hA3
        subst hB3
        have hmem : rd_T87 f3 (k : Int) ∈ f3 := getD_mem _ _ _ (by rw [Int.toNat_natCast, ← Hn.out]; omega)
        have hdr := eqvL_drop f3 h3 k (by rw [← Hn.out]; omega) (by rw [← Hm.out]; omega)
        have hx1 : f3.getD k z87 = rd_T87 f3 (k : Int) := by unfold rd_T87; rw [Int.toNat_natCast]
        have hx2 : h3.getD k z87 = rd_T87 h3 (k : Int) := by unfold rd_T87; rw [Int.toNat_natCast]
        rw [hx1, hx2] at hdr
        clear hx1 hx2
        generalize rd_T87 f3 (k : Int) = x at *
        generalize rd_T87 h3 (k : Int) = y at *
        rw [Int.toNat_natCast] at e0 e1 e2 e3 p0 p1 p2 p3
        have HWk : Hid (Below w0.heap.size w0 wr) := HW.out.trans (HBk.out.mono HW.out.size)
        replace e0 := pw_cell_below HWk.out e0
        replace e1 := pw_cell_below HWk.out e1
        replace e2 := pw_cell_below HWk.out e2
        replace e3 := pw_cell_below HWk.out e3
        replace p0 := pw_cell_below HWk.out p0
        replace p1 := pw_cell_below HWk.out p1
        replace p2 := pw_cell_below HWk.out p2
        replace p3 := pw_cell_below HWk.out p3
        have HY := Lib.hid (IH.out x y (by have := List.sizeOf_lt_of_mem hmem; have := HN.out; simp at this; omega) A3 B3 c3 d3 w0 wr.drew hC3 hC4 HWk.out.drew)
        have HDR := Lib.hid hdr
        have b3 : wr.cell? ⟨w.heap.size, 3, none⟩ = some (.slice (some ad) n c) := blk_at HXk.out 3 rfl
        have b7 : wr.cell? ⟨w.heap.size + 1, 3, none⟩ = some (.slice (some bd) m d) := blk_at HYk.out 3 rfl
        have i0 : (0 : Int) ≤ (k : Int) := by omega
        have i1 : (k : Int) < (n : Int) := by omega
        have i2 : (k : Int) < (m : Int) := by omega
        clear hmem hdr hC3 hC4 hl3 hl4
        go_upto_region 10 with (fail)
        refine start_ (n := 12) (S := (fun w' => w'.cell? ⟨w.heap.size, 3, none⟩ = some (.slice (some ad) n c) ∧ w'.cell? ⟨w.heap.size + 1, 3, none⟩ = some (.slice (some bd) m d) ∧ w'.cell? (ad.add (k * 4)) = some (.int .i64 x.f0) ∧ w'.cell? ⟨(ad.add (k * 4)).block, (ad.add (k * 4)).off + 1, none⟩ = some (.int .i64 x.f1) ∧ w'.cell? ⟨(ad.add (k * 4)).block, (ad.add (k * 4)).off + 2, none⟩ = some (.string x.f2) ∧ w'.cell? ⟨(ad.add (k * 4)).block, (ad.add (k * 4)).off + 3, none⟩ = some (.slice A3 x.f3.length c3) ∧ w'.cell? (bd.add (k * 4)) = some (.int .i64 y.f0) ∧ w'.cell? ⟨(bd.add (k * 4)).block, (bd.add (k * 4)).off + 1, none⟩ = some (.int .i64 y.f1) ∧ w'.cell? ⟨(bd.add (k * 4)).block, (bd.add (k * 4)).off + 2, none⟩ = some (.string y.f2) ∧ w'.cell? ⟨(bd.add (k * 4)).block, (bd.add (k * 4)).off + 3, none⟩ = some (.slice B3 y.f3.length d3))) (ds := [10]) #[false, false, false, false, false, false, false, false, false, false, false, false] (by kernel_rfl) rfl rfl ⟨b3, b7, e0, e1, e2, e3, p0, p1, p2, p3⟩ (fun hHeld => ?_)
        refine pure_ (i := 0) (N := some 63) (v := ?_) (a' := ?_) #[true, false, false, false, false, false, false, false, false, false, false, false] rfl rfl (by kernel_rfl) (fun _ _ _ h => h) (Or.inl ⟨by rfl, ?_⟩) ?_ ?_
        rotate_left
        · intro w'
          go_simp
          with_reducible rfl
        rotate_left
        · go_simp
          rfl
        refine take_ (i := 1) (N := some 64) (v := ?_) (a' := ?_) #[true, true, false, false, false, false, false, false, false, false, false, false] rfl rfl (by kernel_rfl) (fun _ _ _ h => h) (Or.inl ⟨by rfl, ?_⟩) hHeld ?_ ?_
        rotate_left
        · rintro w' ⟨s0, s1, s2, s3, s4, s5, s6, s7, s8, s9⟩
          go_simp
          with_reducible rfl
        rotate_left
        · go_simp
          rfl
        refine pure_ (i := 2) (N := some 65) (v := ?_) (a' := ?_) #[true, true, true, false, false, false, false, false, false, false, false, false] rfl rfl (by kernel_rfl) (fun _ _ _ h => h) (Or.inl ⟨by rfl, ?_⟩) ?_ ?_
        rotate_left
        · intro w'
          go_simp
          with_reducible rfl
        rotate_left
        · go_simp
          rfl
        refine pure_ (i := 3) (N := some 66) (v := ?_) (a' := ?_) #[true, true, true, true, false, false, false, false, false, false, false, false] rfl rfl (by kernel_rfl) (fun _ _ _ h => h) (Or.inl ⟨by rfl, ?_⟩) ?_ ?_
        rotate_left
        · intro w'
          go_simp
          with_reducible rfl
        rotate_left
        · go_simp
          rfl
        refine take_ (i := 4) (N := some 67) (v := ?_) (a' := ?_) #[true, true, true, true, true, false, false, false, false, false, false, false] rfl rfl (by kernel_rfl) (fun _ _ _ h => h) (Or.inl ⟨by rfl, ?_⟩) hHeld ?_ ?_
        rotate_left
        · rintro w' ⟨s0, s1, s2, s3, s4, s5, s6, s7, s8, s9⟩
          go_simp
          with_reducible rfl
        rotate_left
        · go_simp
          rfl
        refine pure_ (i := 5) (N := some 68) (v := ?_) (a' := ?_) #[true, true, true, true, true, true, false, false, false, false, false, false] rfl rfl (by kernel_rfl) (fun _ _ _ h => h) (Or.inl ⟨by rfl, ?_⟩) ?_ ?_
        rotate_left
        · intro w'
          go_simp
          with_reducible rfl
        rotate_left
        · go_simp
          rfl
        refine take_ (i := 6) (N := some 69) (v := ?_) (a' := ?_) #[true, true, true, true, true, true, true, false, false, false, false, false] rfl rfl (by kernel_rfl) (fun _ _ _ h => h) (Or.inl ⟨by rfl, ?_⟩) hHeld ?_ ?_
        rotate_left
        · rintro w' ⟨s0, s1, s2, s3, s4, s5, s6, s7, s8, s9⟩
          go_simp
          with_reducible rfl
        rotate_left
        · go_simp
          rfl
        refine pure_ (i := 7) (N := some 70) (v := ?_) (a' := ?_) #[true, true, true, true, true, true, true, true, false, false, false, false] rfl rfl (by kernel_rfl) (fun _ _ _ h => h) (Or.inl ⟨by rfl, ?_⟩) ?_ ?_
        rotate_left
        · intro w'
          go_simp
          with_reducible rfl
        rotate_left
        · go_simp
          rfl
        refine pure_ (i := 8) (N := some 71) (v := ?_) (a' := ?_) #[true, true, true, true, true, true, true, true, true, false, false, false] rfl rfl (by kernel_rfl) (fun _ _ _ h => h) (Or.inl ⟨by rfl, ?_⟩) ?_ ?_
        rotate_left
        · intro w'
          go_simp
          with_reducible rfl
        rotate_left
        · go_simp
          rfl
        refine take_ (i := 9) (N := some 72) (v := ?_) (a' := ?_) #[true, true, true, true, true, true, true, true, true, true, false, false] rfl rfl (by kernel_rfl) (fun _ _ _ h => h) (Or.inl ⟨by rfl, ?_⟩) hHeld ?_ ?_
        rotate_left
        · rintro w' ⟨s0, s1, s2, s3, s4, s5, s6, s7, s8, s9⟩
          go_simp
          with_reducible rfl
        rotate_left
        · go_simp
          rfl
        refine last_ (i := 10) (N := some 73) #[true, true, true, true, true, true, true, true, true, true, true, false] rfl rfl (by kernel_rfl) (by decide) (fun K hK => ?_)
        refine goes_ Try.func61 (by kernel_rfl) rfl #[.agg #[.int .i64 x.f0, .int .i64 x.f1, .string x.f2, .slice A3 x.f3.length c3], .agg #[.int .i64 y.f0, .int .i64 y.f1, .string y.f2, .slice B3 y.f3.length d3]] (by rfl) rfl rfl (by simp only [List.map_toArray, List.map_cons, List.map_nil]; rfl) ?_
        refine HY.out.mono ?_
        rintro e w2 ⟨r, rfl, hr, hb2⟩
        refine ⟨_, rfl, ?_⟩
        refine hK.out _ _ ?_
        clear hK K hHeld
        have HR1 := Lib.hid hr
        have HB2 : Hid (Below w.heap.size w w2) := Lib.hid (HBk.out.trans (((Below.refl _ wr).drew.trans hb2.out).mono HBk.out.size))
        have HX2 := Lib.hid (blk_below HXk.out ((Below.refl _ wr).drew.trans hb2.out))
        have HX3 := Lib.hid (blk_below HYk.out ((Below.refl _ wr).drew.trans hb2.out))
        clear hr hb2
        refine norm_ (a' := ?_) ?_ ?_
        rotate_left
        · show Act.put _ (some 73) _ = _
          go_simp
          rfl
        refine pure_ (i := 11) (N := some 6) (v := ?_) (a' := ?_) #[true, true, true, true, true, true, true, true, true, true, true, true] rfl rfl (by kernel_rfl) (fun _ _ _ h => h) (Or.inl ⟨by rfl, ?_⟩) ?_ ?_
        rotate_left
        · intro w'
          go_simp
          with_reducible rfl
        rotate_left
        · go_simp
          rfl
        refine done_ (by kernel_rfl) ?_

        clear e0 e1 e2 e3 p0 p1 p2 p3 b3 b7 i0 i1 i2
        by_cases hr0 : r = 0
        · have HV2 : Hid (ev = eqvL (f3.drop (k + 1)) (h3.drop (k + 1))) := Lib.hid (by rw [HVk.out, HDR.out, if_pos (HR1.out.1 hr0)])
          subst hr0
          go_wp2_with (fail)
          go_roundw
          case rel => exact ⟨k + 1, by omega, by go_num, HV2, HB2, HX2, HX3⟩
          case measure => simp [intOf]; omega
        · have HV2 : Hid (ev = false) := Lib.hid (by rw [HVk.out, HDR.out, if_neg (fun e => hr0 (HR1.out.2 e))])
          have HRN := Lib.hid hr0
          have k1 : (r == 0) = false := beq_false_of_ne hr0
          have k2 : (r != 0) = true := by simp [hr0]
          clear hr0
          go_wp2_with (fail)
          go_ret
          exact ⟨r, rfl, by rw [← HEV.out, HV2.out]; exact ⟨fun h => absurd h HRN.out, fun h => by cases h⟩, HB2⟩
set_option maxRecDepth 100000 in
set_option maxHeartbeats 16000000 in
theorem valid62 (x : S87) (A : Option Addr) (c : Nat) (w0 w : World) (hC : Kd.C k87 w0 A x.f3.length x.f3) (hB : Below w0.heap.size w0 w) (hv : (chkV x 0 0).1 = 0) :
    Calls Try.prog 62 #[.agg #[.int .i64 x.f0, .int .i64 x.f1, .string x.f2, .slice A x.f3.length c]] w fun e w' => e = .returned (.agg #[.int .i64 x.f0, .int .i64 x.f1, .string x.f2, .slice A x.f3.length c]) ∧ Hid (Below w.heap.size w w') := by
  have HT : Hid (∀ W, Below w.heap.size w W → Calls Try.prog 50 #[.agg #[.int .i64 x.f0, .int .i64 x.f1, .string x.f2, .slice A x.f3.length c]] W fun e w' => e = .returned (.int .i64 0) ∧ Hid (Below W.heap.size W w')) := Lib.hid (fun W hW => by
    have := check50 x A c w0 W hC (hB.trans (hW.mono hB.size))
    rw [hv] at this
    exact this)
  obtain ⟨n, hn⟩ : ∃ n, n = x.f3.length := ⟨_, rfl⟩
  rw [← hn] at HT ⊢
  have HX : Hid (((w.alloc (.cells #[.int .i64 x.f0, .int .i64 x.f1, .string x.f2, .slice A n c] 87)).alloc (.cells #[.int .i64 0, .int .i64 0, .string ⟨#[]⟩, .slice none 0 0] 87)).heap[w.heap.size]? = some (.cells #[.int .i64 x.f0, .int .i64 x.f1, .string x.f2, .slice A n c] 87 (0, 0))) := Lib.hid (blk_alloc (blk_new w _) _)
  have HZ : Hid (((w.alloc (.cells #[.int .i64 x.f0, .int .i64 x.f1, .string x.f2, .slice A n c] 87)).alloc (.cells #[.int .i64 0, .int .i64 0, .string ⟨#[]⟩, .slice none 0 0] 87)).heap[w.heap.size + 1]? = some (.cells #[.int .i64 0, .int .i64 0, .string ⟨#[]⟩, .slice none 0 0] 87 (0, 0))) := Lib.hid (by
    have := blk_new (w.alloc (.cells #[.int .i64 x.f0, .int .i64 x.f1, .string x.f2, .slice A n c] 87)) (.cells #[.int .i64 0, .int .i64 0, .string ⟨#[]⟩, .slice none 0 0] 87)
    rw [World.size_alloc] at this
    exact this)
  have HB1 : Hid (Below w.heap.size w ((w.alloc (.cells #[.int .i64 x.f0, .int .i64 x.f1, .string x.f2, .slice A n c] 87)).alloc (.cells #[.int .i64 0, .int .i64 0, .string ⟨#[]⟩, .slice none 0 0] 87))) := ((Below.refl _ _).alloc (Nat.le_refl _) _).alloc (by simp) _
  clear hC hB hv hn
  go_enter Try.func62, Try.ntmps62
  go_upto_region 1 with (fail)
  generalize (w.alloc (.cells #[.int .i64 x.f0, .int .i64 x.f1, .string x.f2, .slice A n c] 87)).alloc (.cells #[.int .i64 0, .int .i64 0, .string ⟨#[]⟩, .slice none 0 0] 87) = wa at *
  have x0 : wa.cell? ⟨w.heap.size, 0, none⟩ = some (.int .i64 x.f0) := blk_at HX.out 0 rfl
  have x1 : wa.cell? ⟨w.heap.size, 1, none⟩ = some (.int .i64 x.f1) := blk_at HX.out 1 rfl
  have x2 : wa.cell? ⟨w.heap.size, 2, none⟩ = some (.string x.f2) := blk_at HX.out 2 rfl
  have x3 : wa.cell? ⟨w.heap.size, 3, none⟩ = some (.slice A n c) := blk_at HX.out 3 rfl
  go_upto_region 3 with (go_at_call 50; refine (HT.out _ HB1.out).mono ?_; rintro e w2 ⟨rfl, hb2⟩
                         have HB2 : Hid (Below w.heap.size w w2) := Lib.hid (HB1.out.trans (hb2.out.mono HB1.out.size))
                         have HX2 := Lib.hid (blk_below HX.out hb2.out)
                         have HZ2 := Lib.hid (blk_below HZ.out hb2.out)
                         clear hb2)
  clear x0 x1 x2 x3
  have x0 : w2.cell? ⟨w.heap.size, 0, none⟩ = some (.int .i64 x.f0) := blk_at HX2.out 0 rfl
  have x1 : w2.cell? ⟨w.heap.size, 1, none⟩ = some (.int .i64 x.f1) := blk_at HX2.out 1 rfl
  have x2 : w2.cell? ⟨w.heap.size, 2, none⟩ = some (.string x.f2) := blk_at HX2.out 2 rfl
  have x3 : w2.cell? ⟨w.heap.size, 3, none⟩ = some (.slice A n c) := blk_at HX2.out 3 rfl
  have z0 : w2.cell? ⟨(w.heap.size + 1), 0, none⟩ = some (.int .i64 0) := blk_at HZ2.out 0 rfl
  have y0 : w2.frozen? ⟨(w.heap.size + 1), 0, none⟩ = false := blk_frozen HZ2.out 0
  have z1 : w2.cell? ⟨(w.heap.size + 1), 1, none⟩ = some (.int .i64 0) := blk_at HZ2.out 1 rfl
  have y1 : w2.frozen? ⟨(w.heap.size + 1), 1, none⟩ = false := blk_frozen HZ2.out 1
  have z2 : w2.cell? ⟨(w.heap.size + 1), 2, none⟩ = some (.string ⟨#[]⟩) := blk_at HZ2.out 2 rfl
  have y2 : w2.frozen? ⟨(w.heap.size + 1), 2, none⟩ = false := blk_frozen HZ2.out 2
  have z3 : w2.cell? ⟨(w.heap.size + 1), 3, none⟩ = some (.slice none 0 0) := blk_at HZ2.out 3 rfl
  have y3 : w2.frozen? ⟨(w.heap.size + 1), 3, none⟩ = false := blk_frozen HZ2.out 3
  go_wp2_with (fail)
  have hb4 : ((((w2.setCell ⟨w.heap.size + 1, 0, none⟩ (.int .i64 x.f0)).setCell ⟨w.heap.size + 1, 1, none⟩ (.int .i64 x.f1)).setCell ⟨w.heap.size + 1, 2, none⟩ (.string x.f2)).setCell ⟨w.heap.size + 1, 3, none⟩ (.slice A n c)).heap[w.heap.size + 1]? = some (.cells #[.int .i64 x.f0, .int .i64 x.f1, .string x.f2, .slice A n c] 87 (0, 0)) := blk_put (blk_put (blk_put (blk_put HZ2.out 0 _ rfl) 1 _ rfl) 2 _ rfl) 3 _ rfl
  refine bodyPost_ret (results_cell_row rfl _ _ (w.heap.size + 1) 87 #[.int .i64 x.f0, .int .i64 x.f1, .string x.f2, .slice A n c] (0, 0) _ rfl hb4 Try.underlying87 rfl (by kernel_rfl)) rfl ⟨rfl, ?_⟩
  exact Lib.hid ((((HB2.out.setCell (Nat.le_succ _) _).setCell (Nat.le_succ _) _).setCell (Nat.le_succ _) _).setCell (Nat.le_succ _) _)
set_option maxRecDepth 100000 in
set_option maxHeartbeats 16000000 in
theorem compare56 (x y : S87) (A B : Option Addr) (c d : Nat) (w0 w : World) (hA : Kd.C k87 w0 A x.f3.length x.f3) (hB : Kd.C k87 w0 B y.f3.length y.f3) (hW : Below w0.heap.size w0 w) (hx : (chkV x 0 0).1 = 0) (hy : (chkV y 0 0).1 = 0) :
    Calls Try.prog 56 #[.agg #[.int .i64 x.f0, .int .i64 x.f1, .string x.f2, .slice A x.f3.length c], .agg #[.int .i64 y.f0, .int .i64 y.f1, .string y.f2, .slice B y.f3.length d]] w fun e w' => Tells (eqv x y) w e w' := by
  have HT1 : Hid (∀ W, Below w.heap.size w W → Calls Try.prog 62 #[.agg #[.int .i64 x.f0, .int .i64 x.f1, .string x.f2, .slice A x.f3.length c]] W fun e w' => e = .returned (.agg #[.int .i64 x.f0, .int .i64 x.f1, .string x.f2, .slice A x.f3.length c]) ∧ Hid (Below W.heap.size W w')) := Lib.hid (fun W hV => valid62 x A c w0 W hA (hW.trans (hV.mono hW.size)) hx)
  have HT2 : Hid (∀ W, Below w.heap.size w W → Calls Try.prog 62 #[.agg #[.int .i64 y.f0, .int .i64 y.f1, .string y.f2, .slice B y.f3.length d]] W fun e w' => e = .returned (.agg #[.int .i64 y.f0, .int .i64 y.f1, .string y.f2, .slice B y.f3.length d]) ∧ Hid (Below W.heap.size W w')) := Lib.hid (fun W hV => valid62 y B d w0 W hB (hW.trans (hV.mono hW.size)) hy)
  have HT3 : Hid (∀ W, Below w.heap.size w W → Calls Try.prog 61 #[.agg #[.int .i64 x.f0, .int .i64 x.f1, .string x.f2, .slice A x.f3.length c], .agg #[.int .i64 y.f0, .int .i64 y.f1, .string y.f2, .slice B y.f3.length d]] W fun e w' => Tells (eqv x y) W e w') := Lib.hid (fun W hV => order61 _ x y (Nat.le_refl _) A B c d w0 W hA hB (hW.trans (hV.mono hW.size)))
  obtain ⟨n, hn⟩ : ∃ n, n = x.f3.length := ⟨_, rfl⟩
  obtain ⟨m, hm⟩ : ∃ m, m = y.f3.length := ⟨_, rfl⟩
  rw [← hn] at HT1 HT3 ⊢
  rw [← hm] at HT2 HT3 ⊢
  clear hA hB hW hx hy hn hm
  have HX : Hid (((w.alloc (.cells #[.int .i64 x.f0, .int .i64 x.f1, .string x.f2, .slice A n c] 87)).alloc (.cells #[.int .i64 y.f0, .int .i64 y.f1, .string y.f2, .slice B m d] 87)).heap[w.heap.size]? = some (.cells #[.int .i64 x.f0, .int .i64 x.f1, .string x.f2, .slice A n c] 87 (0, 0))) := Lib.hid (blk_alloc (blk_new w _) _)
  have HY : Hid (((w.alloc (.cells #[.int .i64 x.f0, .int .i64 x.f1, .string x.f2, .slice A n c] 87)).alloc (.cells #[.int .i64 y.f0, .int .i64 y.f1, .string y.f2, .slice B m d] 87)).heap[w.heap.size + 1]? = some (.cells #[.int .i64 y.f0, .int .i64 y.f1, .string y.f2, .slice B m d] 87 (0, 0))) := Lib.hid (by
    have := blk_new (w.alloc (.cells #[.int .i64 x.f0, .int .i64 x.f1, .string x.f2, .slice A n c] 87)) (.cells #[.int .i64 y.f0, .int .i64 y.f1, .string y.f2, .slice B m d] 87)
    rw [World.size_alloc] at this
    exact this)
  have HB : Hid (Below w.heap.size w ((w.alloc (.cells #[.int .i64 x.f0, .int .i64 x.f1, .string x.f2, .slice A n c] 87)).alloc (.cells #[.int .i64 y.f0, .int .i64 y.f1, .string y.f2, .slice B m d] 87))) := ((Below.refl _ _).alloc (Nat.le_refl _) _).alloc (by simp) _
  go_enter Try.func56, Try.ntmps56
  go_upto_region 1 with (fail)
  refine start_ (n := 6) (S := (fun w' => w'.cell? ⟨w.heap.size, 0, none⟩ = some (.int .i64 x.f0) ∧ w'.cell? ⟨w.heap.size, 1, none⟩ = some (.int .i64 x.f1) ∧ w'.cell? ⟨w.heap.size, 2, none⟩ = some (.string x.f2) ∧ w'.cell? ⟨w.heap.size, 3, none⟩ = some (.slice A n c) ∧ w'.cell? ⟨w.heap.size + 1, 0, none⟩ = some (.int .i64 y.f0) ∧ w'.cell? ⟨w.heap.size + 1, 1, none⟩ = some (.int .i64 y.f1) ∧ w'.cell? ⟨w.heap.size + 1, 2, none⟩ = some (.string y.f2) ∧ w'.cell? ⟨w.heap.size + 1, 3, none⟩ = some (.slice B m d))) (ds := [4]) #[false, false, false, false, false, false] (by kernel_rfl) rfl rfl ⟨blk_at HX.out 0 rfl, blk_at HX.out 1 rfl, blk_at HX.out 2 rfl, blk_at HX.out 3 rfl, blk_at HY.out 0 rfl, blk_at HY.out 1 rfl, blk_at HY.out 2 rfl, blk_at HY.out 3 rfl⟩ (fun hHeld => ?_)
  have HXd : Hid (((w.alloc (.cells #[.int .i64 x.f0, .int .i64 x.f1, .string x.f2, .slice A n c] 87)).alloc (.cells #[.int .i64 y.f0, .int .i64 y.f1, .string y.f2, .slice B m d] 87)).drew.heap[w.heap.size]? = some (.cells #[.int .i64 x.f0, .int .i64 x.f1, .string x.f2, .slice A n c] 87 (0, 0))) := HX.out
  have HYd : Hid (((w.alloc (.cells #[.int .i64 x.f0, .int .i64 x.f1, .string x.f2, .slice A n c] 87)).alloc (.cells #[.int .i64 y.f0, .int .i64 y.f1, .string y.f2, .slice B m d] 87)).drew.heap[w.heap.size + 1]? = some (.cells #[.int .i64 y.f0, .int .i64 y.f1, .string y.f2, .slice B m d] 87 (0, 0))) := HY.out
  have HBd : Hid (Below w.heap.size w ((w.alloc (.cells #[.int .i64 x.f0, .int .i64 x.f1, .string x.f2, .slice A n c] 87)).alloc (.cells #[.int .i64 y.f0, .int .i64 y.f1, .string y.f2, .slice B m d] 87)).drew) := HB.out.drew
  clear HX HY HB
  generalize ((w.alloc (.cells #[.int .i64 x.f0, .int .i64 x.f1, .string x.f2, .slice A n c] 87)).alloc (.cells #[.int .i64 y.f0, .int .i64 y.f1, .string y.f2, .slice B m d] 87)).drew = Wd at hHeld HXd HYd HBd ⊢
  refine take_ (i := 0) (N := some 5) (v := ?_) (a' := ?_) #[true, false, false, false, false, false] rfl rfl (by kernel_rfl) (fun _ _ _ h => h) (Or.inl ⟨by rfl, ?_⟩) hHeld ?_ ?_
  rotate_left
  · rintro w' ⟨s0, s1, s2, s3, s4, s5, s6, s7⟩
    go_simp
    with_reducible rfl
  rotate_left
  · go_simp
    rfl
  refine take_ (i := 2) (N := some 7) (v := ?_) (a' := ?_) #[true, false, true, false, false, false] rfl rfl (by kernel_rfl) (fun _ _ _ h => h) (Or.inl ⟨by rfl, ?_⟩) hHeld ?_ ?_
  rotate_left
  · rintro w' ⟨s0, s1, s2, s3, s4, s5, s6, s7⟩
    go_simp
    with_reducible rfl
  rotate_left
  · go_simp
    rfl
  refine one_ (i := 1) (N := some 6) #[true, true, true, false, false, false] rfl rfl (by kernel_rfl) (by decide) (fun K hK => ?_)
  refine goes_ Try.func62 (by kernel_rfl) rfl #[.agg #[.int .i64 x.f0, .int .i64 x.f1, .string x.f2, .slice A n c]] (by rfl) rfl rfl (by simp only [List.map_toArray, List.map_cons, List.map_nil]; rfl) ?_
  refine (HT1.out _ HBd.out).mono ?_
  rintro e W1 ⟨rfl, hb⟩
  refine ⟨_, rfl, ?_⟩
  have HX1 := Lib.hid (blk_below HXd.out hb.out)
  have HY1 := Lib.hid (blk_below HYd.out hb.out)
  have HB1 : Hid (Below w.heap.size w W1) := Lib.hid (HBd.out.trans (hb.out.mono HBd.out.size))
  refine hK.out _ _ ⟨blk_at HX1.out 0 rfl, blk_at HX1.out 1 rfl, blk_at HX1.out 2 rfl, blk_at HX1.out 3 rfl, blk_at HY1.out 0 rfl, blk_at HY1.out 1 rfl, blk_at HY1.out 2 rfl, blk_at HY1.out 3 rfl⟩ (fun hHeld => ?_)
  clear hK K hb HXd HYd HBd
  refine norm_ (a' := ?_) ?_ ?_
  rotate_left
  · show Act.put _ (some 6) _ = _
    go_simp
    rfl
  refine one_ (i := 3) (N := some 8) #[true, true, true, true, false, false] rfl rfl (by kernel_rfl) (by decide) (fun K hK => ?_)
  refine goes_ Try.func62 (by kernel_rfl) rfl #[.agg #[.int .i64 y.f0, .int .i64 y.f1, .string y.f2, .slice B m d]] (by rfl) rfl rfl (by simp only [List.map_toArray, List.map_cons, List.map_nil]; rfl) ?_
  refine (HT2.out _ HB1.out).mono ?_
  rintro e W2 ⟨rfl, hb⟩
  refine ⟨_, rfl, ?_⟩
  have HX2 := Lib.hid (blk_below HX1.out hb.out)
  have HY2 := Lib.hid (blk_below HY1.out hb.out)
  have HB2 : Hid (Below w.heap.size w W2) := Lib.hid (HB1.out.trans (hb.out.mono HB1.out.size))
  refine hK.out _ _ ⟨blk_at HX2.out 0 rfl, blk_at HX2.out 1 rfl, blk_at HX2.out 2 rfl, blk_at HX2.out 3 rfl, blk_at HY2.out 0 rfl, blk_at HY2.out 1 rfl, blk_at HY2.out 2 rfl, blk_at HY2.out 3 rfl⟩ (fun hHeld => ?_)
  clear hK K hb HX1 HY1 HB1
  refine norm_ (a' := ?_) ?_ ?_
  rotate_left
  · show Act.put _ (some 8) _ = _
    go_simp
    rfl
  refine last_ (i := 4) (N := some 9) #[true, true, true, true, true, false] rfl rfl (by kernel_rfl) (by decide) (fun K hK => ?_)
  refine goes_ Try.func61 (by kernel_rfl) rfl #[.agg #[.int .i64 x.f0, .int .i64 x.f1, .string x.f2, .slice A n c], .agg #[.int .i64 y.f0, .int .i64 y.f1, .string y.f2, .slice B m d]] (by rfl) rfl rfl (by simp only [List.map_toArray, List.map_cons, List.map_nil]; rfl) ?_
  refine (HT3.out _ HB2.out).mono ?_
  rintro e W3 ⟨r, rfl, hr, hb⟩
  refine ⟨_, rfl, ?_⟩
  refine hK.out _ _ ?_
  have HR := Lib.hid hr
  have HB3 : Hid (Below w.heap.size w W3) := Lib.hid (HB2.out.trans (hb.out.mono HB2.out.size))
  clear hK K hb hr hHeld HX2 HY2
  refine norm_ (a' := ?_) ?_ ?_
  rotate_left
  · show Act.put _ (some 9) _ = _
    go_simp
    rfl
  refine pure_ (i := 5) (N := some 4) (v := ?_) (a' := ?_) #[true, true, true, true, true, true] rfl rfl (by kernel_rfl) (fun _ _ _ h => h) (Or.inl ⟨by rfl, ?_⟩) ?_ ?_
  rotate_left
  · intro w'
    go_simp
    with_reducible rfl
  rotate_left
  · go_simp
    rfl
  refine done_ (by kernel_rfl) ?_
  go_wp2_with (fail)
  go_ret
  exact ⟨r, rfl, HR.out, HB3⟩
/-- Are two cells the same? -/
def sameC (x y : S63) : Bool := decide (x.f0 = y.f0) && eqvL x.f1 y.f1
set_option maxRecDepth 100000 in
set_option maxHeartbeats 16000000 in
theorem same45 (x y : S63) (A B : Option Addr) (c d : Nat) (w0 w : World) (hA : Kd.C k87 w0 A x.f1.length x.f1) (hB : Kd.C k87 w0 B y.f1.length y.f1) (hW : Below w0.heap.size w0 w) (hx : OkC x) (hy : OkC y) :
    Calls Try.prog 45 #[.agg #[.string x.f0, .slice A x.f1.length c], .agg #[.string y.f0, .slice B y.f1.length d]] w fun e w' => SaysB (sameC x y) w e w' := by
  obtain ⟨n, hn⟩ : ∃ n, n = x.f1.length := ⟨_, rfl⟩
  obtain ⟨m, hm⟩ : ∃ m, m = y.f1.length := ⟨_, rfl⟩
  have HA := Lib.hid hA
  have HBB := Lib.hid hB
  have HW := Lib.hid hW
  have Hn := Lib.hid hn
  have Hm := Lib.hid hm
  have HOX := Lib.hid (chkVals_ok hx.2.2)
  have HOY := Lib.hid (chkVals_ok hy.2.2)
  have hnm : n ≤ 9223372036854775807 := by rw [hn]; exact Kd.C_max hA
  rw [← hn, ← hm]
  clear hA hB hW hx hy hn hm
  have HX : Hid (((w.alloc (.cells #[.string x.f0, .slice A n c] 63)).alloc (.cells #[.string y.f0, .slice B m d] 63)).heap[w.heap.size]? = some (.cells #[.string x.f0, .slice A n c] 63 (0, 0))) := Lib.hid (blk_alloc (blk_new w _) _)
  have HY : Hid (((w.alloc (.cells #[.string x.f0, .slice A n c] 63)).alloc (.cells #[.string y.f0, .slice B m d] 63)).heap[w.heap.size + 1]? = some (.cells #[.string y.f0, .slice B m d] 63 (0, 0))) := Lib.hid (by
    have := blk_new (w.alloc (.cells #[.string x.f0, .slice A n c] 63)) (.cells #[.string y.f0, .slice B m d] 63)
    rw [World.size_alloc] at this
    exact this)
  have HB : Hid (Below w.heap.size w ((w.alloc (.cells #[.string x.f0, .slice A n c] 63)).alloc (.cells #[.string y.f0, .slice B m d] 63))) := ((Below.refl _ _).alloc (Nat.le_refl _) _).alloc (by simp) _
  go_enter Try.func45, Try.ntmps45
  go_upto_region 1 with (fail)
  generalize ((w.alloc (.cells #[.string x.f0, .slice A n c] 63)).alloc (.cells #[.string y.f0, .slice B m d] 63)) = wa at *
  have x0 : wa.cell? ⟨w.heap.size, 0, none⟩ = some (.string x.f0) := blk_at HX.out 0 rfl
  have x1 : wa.cell? ⟨w.heap.size, 1, none⟩ = some (.slice A n c) := blk_at HX.out 1 rfl
  have y0 : wa.cell? ⟨(w.heap.size + 1), 0, none⟩ = some (.string y.f0) := blk_at HY.out 0 rfl
  have y1 : wa.cell? ⟨(w.heap.size + 1), 1, none⟩ = some (.slice B m d) := blk_at HY.out 1 rfl
  by_cases hk : x.f0 = y.f0
  rotate_left
  · have HV : Hid (sameC x y = false) := Lib.hid (by unfold sameC; rw [decide_eq_false hk]; rfl)
    have k3 : ¬ x.f0.toList = y.f0.toList := fun e => hk (by
      rw [ByteArray.toList_eq, ByteArray.toList_eq] at e
      generalize x.f0 = a at *
      generalize y.f0 = b at *
      obtain ⟨⟨a⟩⟩ := a
      obtain ⟨⟨b⟩⟩ := b
      simp at e
      rw [e])
    have k4 : (x.f0.toList == y.f0.toList) = false := beq_eq_false_iff_ne.2 k3
    clear hk
    go_wp2_with (fail)
    go_ret
    rw [HV.out]
    exact ⟨rfl, HB⟩
  have HV0 : Hid (sameC x y = eqvL x.f1 y.f1) := Lib.hid (by unfold sameC; rw [decide_eq_true hk]; rfl)
  rw [← hk] at y0
  clear hk
  by_cases hl : n = m
  rotate_left
  · have HV : Hid (sameC x y = false) := Lib.hid (by
      rw [HV0.out]
      cases he : eqvL x.f1 y.f1 with
      | false => rfl
      | true => have := eqvL_len _ _ he; rw [← Hn.out, ← Hm.out] at this; exact absurd this hl)
    have k1 : (n == m) = false := beq_false_of_ne hl
    have k3 : ((n : Int) == (m : Int)) = false := beq_false_of_ne (by omega)
    have k4 : ((n : Int) != (m : Int)) = true := by simp; omega
    go_wp2_with (fail)
    go_ret
    rw [HV.out]
    exact ⟨rfl, HB⟩
  subst hl
  go_wp2_with (fail)
  clear x0 x1 y0 y1
  go_loopw [5, 23] (fun v5 v23 wr => ∃ k : Nat, k ≤ n ∧ v23 = .int .i64 k ∧ Hid (sameC x y = eqvL (x.f1.drop k) (y.f1.drop k)) ∧ Hid (Below w.heap.size w wr) ∧ Hid (wr.heap[w.heap.size]? = some (.cells #[.string x.f0, .slice A n c] 63 (0, 0))) ∧ Hid (wr.heap[w.heap.size + 1]? = some (.cells #[.string y.f0, .slice B n d] 63 (0, 0)))) (fun _ v23 _ => n - (intOf v23).toNat)
  case atStart => exact ⟨0, Nat.zero_le _, rfl, HV0, HB, HX, HY⟩
  case round =>
    clear HV0 HB HX HY
    obtain ⟨k, hk, rfl, HVk, HBk, HXk, HYk⟩ := hrel
    by_cases hlt : k < n
    rotate_left
    · obtain rfl : n = k := by omega
      have HE : Hid (sameC x y = true) := Lib.hid (by rw [HVk.out, List.drop_eq_nil_of_le (by rw [← Hn.out]; exact Nat.le_refl _), List.drop_eq_nil_of_le (by rw [← Hm.out]; exact Nat.le_refl _), eqvL_nil])
      go_wp2_with (fail)
      go_ret
      rw [HE.out]
      exact ⟨rfl, HBk⟩
    obtain ⟨ad, A3, c3, hA3, e0, e1, e2, e3, hl3, hC3⟩ := at_T87 HA.out (k : Int) (by omega) (by rw [← Hn.out]; omega)
    obtain ⟨bd, B3, d3, hB3, p0, p1, p2, p3, hl4, hC4⟩ := at_T87 HBB.out (k : Int) (by omega) (by rw [← Hm.out]; omega)
    subst hA3
    subst hB3
    have hm1 := HOX.out _ (getD_mem x.f1 z87 k (by rw [← Hn.out]; exact hlt))
    have hm2 := HOY.out _ (getD_mem y.f1 z87 k (by rw [← Hm.out]; exact hlt))
    have hdr := eqvL_drop x.f1 y.f1 k (by rw [← Hn.out]; omega) (by rw [← Hm.out]; omega)
    have hx1 : x.f1.getD k z87 = rd_T87 x.f1 (k : Int) := by unfold rd_T87; rw [Int.toNat_natCast]
    have hx2 : y.f1.getD k z87 = rd_T87 y.f1 (k : Int) := by unfold rd_T87; rw [Int.toNat_natCast]
    rw [hx1] at hdr hm1
    rw [hx2] at hdr hm2
    clear hx1 hx2
    generalize rd_T87 x.f1 (k : Int) = u at *
    generalize rd_T87 y.f1 (k : Int) = v at *
    rw [Int.toNat_natCast] at e0 e1 e2 e3 p0 p1 p2 p3
    have HWk : Hid (Below w0.heap.size w0 wr) := HW.out.trans (HBk.out.mono HW.out.size)
    replace e0 := pw_cell_below HWk.out e0
    replace e1 := pw_cell_below HWk.out e1
    replace e2 := pw_cell_below HWk.out e2
    replace e3 := pw_cell_below HWk.out e3
    replace p0 := pw_cell_below HWk.out p0
    replace p1 := pw_cell_below HWk.out p1
    replace p2 := pw_cell_below HWk.out p2
    replace p3 := pw_cell_below HWk.out p3
    have HYY := Lib.hid (compare56 u v A3 B3 c3 d3 w0 wr.drew hC3 hC4 HWk.out.drew hm1 hm2)
    have HDR := Lib.hid hdr
    have b3 : wr.cell? ⟨w.heap.size, 1, none⟩ = some (.slice (some ad) n c) := blk_at HXk.out 1 rfl
    have b7 : wr.cell? ⟨w.heap.size + 1, 1, none⟩ = some (.slice (some bd) n d) := blk_at HYk.out 1 rfl
    have i0 : (0 : Int) ≤ (k : Int) := by omega
    have i1 : (k : Int) < (n : Int) := by omega
    clear hm1 hm2 hdr hC3 hC4 hl3 hl4
    go_upto_region 6 with (fail)
    refine start_ (n := 12) (S := (fun w' => w'.cell? ⟨w.heap.size, 1, none⟩ = some (.slice (some ad) n c) ∧ w'.cell? ⟨w.heap.size + 1, 1, none⟩ = some (.slice (some bd) n d) ∧ w'.cell? (ad.add (k * 4)) = some (.int .i64 u.f0) ∧ w'.cell? ⟨(ad.add (k * 4)).block, (ad.add (k * 4)).off + 1, none⟩ = some (.int .i64 u.f1) ∧ w'.cell? ⟨(ad.add (k * 4)).block, (ad.add (k * 4)).off + 2, none⟩ = some (.string u.f2) ∧ w'.cell? ⟨(ad.add (k * 4)).block, (ad.add (k * 4)).off + 3, none⟩ = some (.slice A3 u.f3.length c3) ∧ w'.cell? (bd.add (k * 4)) = some (.int .i64 v.f0) ∧ w'.cell? ⟨(bd.add (k * 4)).block, (bd.add (k * 4)).off + 1, none⟩ = some (.int .i64 v.f1) ∧ w'.cell? ⟨(bd.add (k * 4)).block, (bd.add (k * 4)).off + 2, none⟩ = some (.string v.f2) ∧ w'.cell? ⟨(bd.add (k * 4)).block, (bd.add (k * 4)).off + 3, none⟩ = some (.slice B3 v.f3.length d3))) (ds := [10]) #[false, false, false, false, false, false, false, false, false, false, false, false] (by kernel_rfl) rfl rfl ⟨b3, b7, e0, e1, e2, e3, p0, p1, p2, p3⟩ (fun hHeld => ?_)
    refine pure_ (i := 0) (N := some 26) (v := ?_) (a' := ?_) #[true, false, false, false, false, false, false, false, false, false, false, false] rfl rfl (by kernel_rfl) (fun _ _ _ h => h) (Or.inl ⟨by rfl, ?_⟩) ?_ ?_
    rotate_left
    · intro w'
      go_simp
      with_reducible rfl
    rotate_left
    · go_simp
      rfl
    refine take_ (i := 1) (N := some 27) (v := ?_) (a' := ?_) #[true, true, false, false, false, false, false, false, false, false, false, false] rfl rfl (by kernel_rfl) (fun _ _ _ h => h) (Or.inl ⟨by rfl, ?_⟩) hHeld ?_ ?_
    rotate_left
    · rintro w' ⟨s0, s1, s2, s3, s4, s5, s6, s7, s8, s9⟩
      go_simp
      with_reducible rfl
    rotate_left
    · go_simp
      rfl
    refine pure_ (i := 2) (N := some 28) (v := ?_) (a' := ?_) #[true, true, true, false, false, false, false, false, false, false, false, false] rfl rfl (by kernel_rfl) (fun _ _ _ h => h) (Or.inl ⟨by rfl, ?_⟩) ?_ ?_
    rotate_left
    · intro w'
      go_simp
      with_reducible rfl
    rotate_left
    · go_simp
      rfl
    refine pure_ (i := 3) (N := some 29) (v := ?_) (a' := ?_) #[true, true, true, true, false, false, false, false, false, false, false, false] rfl rfl (by kernel_rfl) (fun _ _ _ h => h) (Or.inl ⟨by rfl, ?_⟩) ?_ ?_
    rotate_left
    · intro w'
      go_simp
      with_reducible rfl
    rotate_left
    · go_simp
      rfl
    refine take_ (i := 4) (N := some 30) (v := ?_) (a' := ?_) #[true, true, true, true, true, false, false, false, false, false, false, false] rfl rfl (by kernel_rfl) (fun _ _ _ h => h) (Or.inl ⟨by rfl, ?_⟩) hHeld ?_ ?_
    rotate_left
    · rintro w' ⟨s0, s1, s2, s3, s4, s5, s6, s7, s8, s9⟩
      go_simp
      with_reducible rfl
    rotate_left
    · go_simp
      rfl
    refine pure_ (i := 5) (N := some 31) (v := ?_) (a' := ?_) #[true, true, true, true, true, true, false, false, false, false, false, false] rfl rfl (by kernel_rfl) (fun _ _ _ h => h) (Or.inl ⟨by rfl, ?_⟩) ?_ ?_
    rotate_left
    · intro w'
      go_simp
      with_reducible rfl
    rotate_left
    · go_simp
      rfl
    refine take_ (i := 6) (N := some 32) (v := ?_) (a' := ?_) #[true, true, true, true, true, true, true, false, false, false, false, false] rfl rfl (by kernel_rfl) (fun _ _ _ h => h) (Or.inl ⟨by rfl, ?_⟩) hHeld ?_ ?_
    rotate_left
    · rintro w' ⟨s0, s1, s2, s3, s4, s5, s6, s7, s8, s9⟩
      go_simp
      with_reducible rfl
    rotate_left
    · go_simp
      rfl
    refine pure_ (i := 7) (N := some 33) (v := ?_) (a' := ?_) #[true, true, true, true, true, true, true, true, false, false, false, false] rfl rfl (by kernel_rfl) (fun _ _ _ h => h) (Or.inl ⟨by rfl, ?_⟩) ?_ ?_
    rotate_left
    · intro w'
      go_simp
      with_reducible rfl
    rotate_left
    · go_simp
      rfl
    refine pure_ (i := 8) (N := some 34) (v := ?_) (a' := ?_) #[true, true, true, true, true, true, true, true, true, false, false, false] rfl rfl (by kernel_rfl) (fun _ _ _ h => h) (Or.inl ⟨by rfl, ?_⟩) ?_ ?_
    rotate_left
    · intro w'
      go_simp
      with_reducible rfl
    rotate_left
    · go_simp
      rfl
    refine take_ (i := 9) (N := some 35) (v := ?_) (a' := ?_) #[true, true, true, true, true, true, true, true, true, true, false, false] rfl rfl (by kernel_rfl) (fun _ _ _ h => h) (Or.inl ⟨by rfl, ?_⟩) hHeld ?_ ?_
    rotate_left
    · rintro w' ⟨s0, s1, s2, s3, s4, s5, s6, s7, s8, s9⟩
      go_simp
      with_reducible rfl
    rotate_left
    · go_simp
      rfl
    refine last_ (i := 10) (N := some 36) #[true, true, true, true, true, true, true, true, true, true, true, false] rfl rfl (by kernel_rfl) (by decide) (fun K hK => ?_)
    refine goes_ Try.func56 (by kernel_rfl) rfl #[.agg #[.int .i64 u.f0, .int .i64 u.f1, .string u.f2, .slice A3 u.f3.length c3], .agg #[.int .i64 v.f0, .int .i64 v.f1, .string v.f2, .slice B3 v.f3.length d3]] (by rfl) rfl rfl (by simp only [List.map_toArray, List.map_cons, List.map_nil]; rfl) ?_
    refine HYY.out.mono ?_
    rintro e w2 ⟨r, rfl, hr, hb2⟩
    refine ⟨_, rfl, ?_⟩
    refine hK.out _ _ ?_
    clear hK K hHeld
    have HR1 := Lib.hid hr
    have HB2 : Hid (Below w.heap.size w w2) := Lib.hid (HBk.out.trans (((Below.refl _ wr).drew.trans hb2.out).mono HBk.out.size))
    have HX2 := Lib.hid (blk_below HXk.out ((Below.refl _ wr).drew.trans hb2.out))
    have HX3 := Lib.hid (blk_below HYk.out ((Below.refl _ wr).drew.trans hb2.out))
    clear hr hb2
    refine norm_ (a' := ?_) ?_ ?_
    rotate_left
    · show Act.put _ (some 36) _ = _
      go_simp
      rfl
    refine pure_ (i := 11) (N := some 37) (v := ?_) (a' := ?_) #[true, true, true, true, true, true, true, true, true, true, true, true] rfl rfl (by kernel_rfl) (fun _ _ _ h => h) (Or.inl ⟨by rfl, ?_⟩) ?_ ?_
    rotate_left
    · intro w'
      go_simp
      with_reducible rfl
    rotate_left
    · go_simp
      rfl
    refine done_ (by kernel_rfl) ?_
    clear e0 e1 e2 e3 p0 p1 p2 p3 b3 b7 i0 i1
    by_cases hr0 : r = 0
    · have HV2 : Hid (sameC x y = eqvL (x.f1.drop (k + 1)) (y.f1.drop (k + 1))) := Lib.hid (by rw [HVk.out, HDR.out, if_pos (HR1.out.1 hr0)])
      subst hr0
      go_wp2_with (fail)
      go_roundw
      case rel => exact ⟨k + 1, by omega, by go_num, HV2, HB2, HX2, HX3⟩
      case measure => simp [intOf]; omega
    · have HV2 : Hid (sameC x y = false) := Lib.hid (by rw [HVk.out, HDR.out, if_neg (fun e => hr0 (HR1.out.2 e))])
      have k1 : (r == 0) = false := beq_false_of_ne hr0
      have k2 : (r != 0) = true := by simp [hr0]
      clear hr0
      go_wp2_with (fail)
      go_ret
      rw [HV2.out]
      exact ⟨rfl, HB2⟩
end Go.Proofs.Ytpplnhefpcofoaa.PDeltaJoin
