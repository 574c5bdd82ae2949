/- The reference's Compare of valid values. -/
import Derived.Test.YtpplnhefpcofoaaZQN
import Derived.Test.YtpplnhefpcofoaaZXR
namespace Go.Proofs.Ytpplnhefpcofoaa.PDeltaJoin
open Go.RowKit Go.Proofs.YtpplnhefpcofoaaW.PrintWords Go.Proofs.YtpplnhefpcofoaaW.PrintLast
set_option linter.unusedVariables false
set_option linter.unusedSimpArgs false

theorem nums_inj : ∀ (l k : List Int), (∀ n ∈ l, 0 ≤ n ∧ n ≤ 255) → (∀ n ∈ k, 0 ≤ n ∧ n ≤ 255) → l.map (fun n => UInt8.ofNat n.toNat) = k.map (fun n => UInt8.ofNat n.toNat) → l = k
  | [], [], _, _, _ => rfl
  | [], _ :: _, _, _, h => by simp at h
  | _ :: _, [], _, _, h => by simp at h
  | a :: l, b :: k, hl, hk, h => by
    rw [List.map_cons, List.map_cons] at h
    injection h with h1 h2
    have ha := hl a (by simp)
    have hb := hk b (by simp)
    have e := congrArg UInt8.toNat h1
    rw [UInt8.toNat_ofNat', UInt8.toNat_ofNat'] at e
    rw [nums_inj l k (fun n h => hl n (List.mem_cons_of_mem _ h)) (fun n h => hk n (List.mem_cons_of_mem _ h)) h2, show a = b by omega]
theorem encB_bytes : ∀ (l : List Int), (∀ n ∈ l, 0 ≤ n ∧ n ≤ 255) → ∀ n ∈ encB l, 0 ≤ n ∧ n ≤ 255
  | [], _ => by simp [encB]
  | c :: l, h => by
    intro n hn
    rw [encB] at hn
    rcases List.mem_append.1 hn with q | q
    · split at q
      · simp at q; omega
      · simp at q; rw [q]; exact h c (by simp)
    · exact encB_bytes l (fun k hk => h k (List.mem_cons_of_mem _ hk)) n q
theorem rk_bytes : ∀ (N : Nat), (∀ (x : S87), SizeOf.sizeOf x ≤ N → ∀ n ∈ rkV x, 0 ≤ n ∧ n ≤ 255) ∧ (∀ (l : List S87), SizeOf.sizeOf l ≤ N → ∀ n ∈ rkL l, 0 ≤ n ∧ n ≤ 255)
  | 0 => ⟨fun x => by cases x; intro h; simp at h, fun l => by cases l <;> (intro h; simp at h)⟩
  | N + 1 => by
    obtain ⟨iv, il⟩ := rk_bytes N
    refine ⟨fun x h n hn => ?_, fun l h n hn => ?_⟩
    · obtain ⟨f0, f1, f2, f3⟩ := x
      rw [rkV_eq] at hn
      rcases List.mem_cons.1 hn with q | q
      · omega
      · split at q
        · unfold plP at q
          simp only [List.mem_cons, List.not_mem_nil, or_false] at q
          omega
        · split at q
          · rcases List.mem_append.1 q with q | q
            · refine encB_bytes _ (fun k hk => ?_) n q
              obtain ⟨b, _, rfl⟩ := List.mem_map.1 hk
              have := b.toNat_lt
              omega
            · simp at q; omega
          · split at q
            · rcases List.mem_append.1 q with q | q
              · exact il f3 (by simp at h; omega) n q
              · simp at q; omega
            · cases q
    · cases l with
      | nil => rw [rkL_nil] at hn; cases hn
      | cons y ys =>
        simp at h
        rw [rkL_cons] at hn
        rcases List.mem_append.1 hn with q | q
        · exact iv y (by omega) n q
        · exact il ys (by omega) n q
theorem str_inj {x y : S87} (hx : Wf x) (hy : Wf y) (h : strOfNums (rkV x) = strOfNums (rkV y)) : x = y := by
  unfold strOfNums at h
  injection h with h
  have h1 := congrArg Array.toList h
  exact rkV_inj hx hy (nums_inj _ _ ((rk_bytes _).1 x (Nat.le_refl _)) ((rk_bytes _).1 y (Nat.le_refl _)) (by simpa using h1))
theorem less_self (l : List UInt8) : Op.bytesLess l l = false := by rw [bytesLess_ltr]; simp [List.lt_irrefl]
theorem list_eq {s t : ByteArray} (h : (s.toList == t.toList) = true) : s = t := by
  have h := eq_of_beq h
  rw [ByteArray.toList_eq, ByteArray.toList_eq] at h
  obtain ⟨a⟩ := s
  obtain ⟨b⟩ := t
  rw [show a = b from Array.toList_inj.1 h]
/-- Compare, answered. -/
def CmpAns (x y : S87) (w : World) (e : Ending) (w' : World) : Prop := ∃ z : Int, e = .returned (.int .i64 z) ∧ Hid ((z == 0) = eqB (x = y)) ∧ Hid (Below w.heap.size w w')
set_option maxRecDepth 100000 in
set_option maxHeartbeats 16000000 in
theorem compare57v (x y : S87) (A B : Option Addr) (c d : Nat) (w0 w : World) (hA : Kd.C k87 w0 A x.f3.length x.f3) (hB : Kd.C k87 w0 B y.f3.length y.f3) (hW : Below w0.heap.size w0 w) (hx : Wf x) (hy : Wf y) (vx : (chkV x 0 0).1 = 0) (vy : (chkV y 0 0).1 = 0) (px : (partsF x).length ≤ 100000) (py : (partsF y).length ≤ 100000) :
    Calls Try.prog 57 #[.agg #[.int .i64 x.f0, .int .i64 x.f1, .string x.f2, .slice A x.f3.length c], .agg #[.int .i64 y.f0, .int .i64 y.f1, .string y.f2, .slice B y.f3.length d]] w fun e w' => CmpAns x y w e w' := by
  have HP : Hid (∀ W, Below w.heap.size w W → Calls Try.prog 64 #[.agg #[.int .i64 x.f0, .int .i64 x.f1, .string x.f2, .slice A x.f3.length c]] W fun e w' => PartsAns x W e w') := Lib.hid (fun W h => parts64 x A c w0 W hA (hW.trans (h.mono hW.size)) vx)
  have HQ : Hid (∀ W, Below w.heap.size w W → Calls Try.prog 64 #[.agg #[.int .i64 y.f0, .int .i64 y.f1, .string y.f2, .slice B y.f3.length d]] W fun e w' => PartsAns y W e w') := Lib.hid (fun W h => parts64 y B d w0 W hB (hW.trans (h.mono hW.size)) vy)
  obtain ⟨K1, hK1⟩ := (rank_some _).1 x (Nat.le_refl _) hx [] [] (by simpa using px)
  obtain ⟨K2, hK2⟩ := (rank_some _).1 y (Nat.le_refl _) hy [] [] (by simpa using py)
  rw [List.nil_append, List.append_nil] at hK1 hK2
  have HRx : Hid (∀ (P : Option Addr) (p : Nat) (W : World), Kd.C k111 W P (partsF x).length (partsF x) → (partsF x).length ≤ p → Calls Try.prog 63 #[.slice P (partsF x).length p, .int .i64 0] W fun e w' => ∃ v0_ : Value, e = .returned (.tuple #[v0_, .int .i64 ((([] : List S111).length + (partsF x).length : Nat) : Int)]) ∧ Kd.R (Kd.int .u8) 5 w' W.heap.size (fun _ => True) v0_ (rkV x) ∧ Below W.heap.size W w') := Lib.hid (fun P p W h1 h2 => eddyref2_rank.calls K1 P p (partsF x) 0 (rkV x) _ W h1 h2 hK1)
  have HRy : Hid (∀ (P : Option Addr) (p : Nat) (W : World), Kd.C k111 W P (partsF y).length (partsF y) → (partsF y).length ≤ p → Calls Try.prog 63 #[.slice P (partsF y).length p, .int .i64 0] W fun e w' => ∃ v0_ : Value, e = .returned (.tuple #[v0_, .int .i64 ((([] : List S111).length + (partsF y).length : Nat) : Int)]) ∧ Kd.R (Kd.int .u8) 5 w' W.heap.size (fun _ => True) v0_ (rkV y) ∧ Below W.heap.size W w') := Lib.hid (fun P p W h1 h2 => eddyref2_rank.calls K2 P p (partsF y) 0 (rkV y) _ W h1 h2 hK2)
  have HX := Lib.hid hx
  have HY := Lib.hid hy
  obtain ⟨n, hn⟩ : ∃ n, n = x.f3.length := ⟨_, rfl⟩
  obtain ⟨m, hm⟩ : ∃ n, n = y.f3.length := ⟨_, rfl⟩
  rw [← hn] at HP ⊢
  rw [← hm] at HQ ⊢
  clear hA hB hW hx hy vx vy px py hK1 hK2 hn hm
  have H0 : Hid (((w.alloc (.cells #[.int .i64 x.f0, .int .i64 x.f1, .string x.f2, .slice A n c] 87)).alloc (.cells #[.int .i64 y.f0, .int .i64 y.f1, .string y.f2, .slice B m d] 87)).heap[w.heap.size]? = some (.cells #[.int .i64 x.f0, .int .i64 x.f1, .string x.f2, .slice A n c] 87 (0, 0))) := Lib.hid (blk_alloc (blk_new w _) _)
  have H1 : Hid (((w.alloc (.cells #[.int .i64 x.f0, .int .i64 x.f1, .string x.f2, .slice A n c] 87)).alloc (.cells #[.int .i64 y.f0, .int .i64 y.f1, .string y.f2, .slice B m d] 87)).heap[w.heap.size + 1]? = some (.cells #[.int .i64 y.f0, .int .i64 y.f1, .string y.f2, .slice B m d] 87 (0, 0))) := Lib.hid (by
    have := blk_new (w.alloc (.cells #[.int .i64 x.f0, .int .i64 x.f1, .string x.f2, .slice A n c] 87)) (.cells #[.int .i64 y.f0, .int .i64 y.f1, .string y.f2, .slice B m d] 87)
    rw [World.size_alloc] at this
    exact this)
  have HB : Hid (Below w.heap.size w ((w.alloc (.cells #[.int .i64 x.f0, .int .i64 x.f1, .string x.f2, .slice A n c] 87)).alloc (.cells #[.int .i64 y.f0, .int .i64 y.f1, .string y.f2, .slice B m d] 87))) := Lib.hid (((Below.refl _ w).alloc (Nat.le_refl _) _).alloc (by simp) _)
  go_enter Try.func57, Try.ntmps57
  go_upto_region 1 with (fail)
  generalize ((w.alloc (.cells #[.int .i64 x.f0, .int .i64 x.f1, .string x.f2, .slice A n c] 87)).alloc (.cells #[.int .i64 y.f0, .int .i64 y.f1, .string y.f2, .slice B m d] 87)) = wa at *
  obtain ⟨g, hg⟩ : ∃ g, g = w.heap.size := ⟨_, rfl⟩
  rw [← hg] at H0 H1 ⊢
  clear hg
  have a0 : wa.cell? ⟨g, 0, none⟩ = some (.int .i64 x.f0) := blk_at H0.out 0 rfl
  have a1 : wa.cell? ⟨g, 1, none⟩ = some (.int .i64 x.f1) := blk_at H0.out 1 rfl
  have a2 : wa.cell? ⟨g, 2, none⟩ = some (.string x.f2) := blk_at H0.out 2 rfl
  have a3 : wa.cell? ⟨g, 3, none⟩ = some (.slice A n c) := blk_at H0.out 3 rfl
  go_upto_region 2 with (first
    | (go_at_call 64; refine (HP.out wa HB.out).mono ?_; rintro e u1 ⟨P1, p1, rfl, hC, hc, hb⟩
       have HU1 := hb
       have HCp1 := hC
       have HCl1 := hc
       clear hC hc hb a0 a1 a2 a3)
    | (go_at_call 63; refine (HRx.out P1 p1 u1 HCp1.out HCl1.out).mono ?_; rintro e v1 ⟨q1, rfl, hq, hb⟩
       have HV1 : Hid (Below wa.heap.size wa v1) := HU1.out.trans (hb.mono HU1.out.size)
       have HQ1 := Lib.hid hq
       clear hq hb))
  obtain ⟨R1, r1, hqe⟩ := Kd.R_slice HQ1.out
  subst hqe
  have HS1 := Lib.hid (Kd.R_reads' HQ1.out).2.2
  have HT1 : Hid (Below w.heap.size w v1) := HB.out.trans (HV1.out.mono HB.out.size)
  clear HQ1 HU1 HCp1 HCl1
  have H1b := Lib.hid (blk_below H1.out HV1.out)
  clear H0 H1 HV1 HP HRx HB
  have a0 : v1.cell? ⟨(g + 1), 0, none⟩ = some (.int .i64 y.f0) := blk_at H1b.out 0 rfl
  have a1 : v1.cell? ⟨(g + 1), 1, none⟩ = some (.int .i64 y.f1) := blk_at H1b.out 1 rfl
  have a2 : v1.cell? ⟨(g + 1), 2, none⟩ = some (.string y.f2) := blk_at H1b.out 2 rfl
  have a3 : v1.cell? ⟨(g + 1), 3, none⟩ = some (.slice B m d) := blk_at H1b.out 3 rfl
  go_upto_region 3 with (first
    | (go_at_call 64; refine (HQ.out v1 HT1.out).mono ?_; rintro e u2 ⟨P2, p2, rfl, hC, hc, hb⟩
       have HU2 := hb
       have HCp2 := hC
       have HCl2 := hc
       clear hC hc hb a0 a1 a2 a3)
    | (go_at_call 63; refine (HRy.out P2 p2 u2 HCp2.out HCl2.out).mono ?_; rintro e v2 ⟨q2, rfl, hq, hb⟩
       have HV2 : Hid (Below v1.heap.size v1 v2) := HU2.out.trans (hb.mono HU2.out.size)
       have HQ2 := Lib.hid hq
       clear hq hb))
  obtain ⟨R2, r2, hqe⟩ := Kd.R_slice HQ2.out
  subst hqe
  have HS2 := Lib.hid (Kd.R_reads' HQ2.out).2.2
  have HT2 : Hid (Below w.heap.size w v2) := HT1.out.trans (HV2.out.mono HT1.out.size)
  clear HQ2 HU2 HCp2 HCl2
  have HD1 := Lib.hid (Kd.C_below HS1.out HV2.out)
  clear H1b HV2 HS1 HQ HRy HT1
  go_upto_region 3 with (fail)
  refine start_ (n := 6) (S := (fun w' => (Kd.int .u8).C w' R1 (rkV x).length (rkV x) ∧ (Kd.int .u8).C w' R2 (rkV y).length (rkV y))) (ds := []) #[false, false, false, false, false, false] (by kernel_rfl) rfl rfl ⟨Kd.C_drew HD1.out, Kd.C_drew HS2.out⟩ (fun hHeld => ?_)
  have HBd : Hid (Below w.heap.size w v2.drew) := HT2.out.drew
  generalize v2.drew = vd at hHeld HBd ⊢
  refine pure_ (i := 0) (N := some 23) (v := ?_) (a' := ?_) #[true, false, false, false, false, false] rfl rfl (by kernel_rfl) (fun _ _ _ h => h) (Or.inl ⟨by rfl, ?_⟩) ?_ ?_
  rotate_left
  · intro w'
    go_simp
    with_reducible rfl
  rotate_left
  · go_simp
    rfl
  refine take_ (i := 1) (N := some 24) (v := .string (strOfNums (rkV x))) (a' := ?_) #[true, true, false, false, false, false] rfl rfl (by kernel_rfl) (fun _ _ _ h => h) (Or.inl ⟨by rfl, ?_⟩) hHeld ?_ ?_
  · rintro w' ⟨s0, s1⟩
    go_simp
    rw [Kd.C_string Try.underlying105 Try.underlying5 Try.underlying9 s0]
    rfl
  rotate_left
  · go_simp
    rfl
  refine pure_ (i := 2) (N := some 25) (v := ?_) (a' := ?_) #[true, true, true, false, false, false] rfl rfl (by kernel_rfl) (fun _ _ _ h => h) (Or.inl ⟨by rfl, ?_⟩) ?_ ?_
  rotate_left
  · intro w'
    go_simp
    with_reducible rfl
  rotate_left
  · go_simp
    rfl
  refine take_ (i := 3) (N := some 26) (v := .string (strOfNums (rkV y))) (a' := ?_) #[true, true, true, true, false, false] rfl rfl (by kernel_rfl) (fun _ _ _ h => h) (Or.inl ⟨by rfl, ?_⟩) hHeld ?_ ?_
  · rintro w' ⟨s0, s1⟩
    go_simp
    rw [Kd.C_string Try.underlying105 Try.underlying5 Try.underlying9 s1]
    rfl
  rotate_left
  · go_simp
    rfl
  refine pure_ (i := 4) (N := some 9) (v := ?_) (a' := ?_) #[true, true, true, true, true, false] rfl rfl (by kernel_rfl) (fun _ _ _ h => h) (Or.inl ⟨by rfl, ?_⟩) ?_ ?_
  rotate_left
  · intro w'
    go_simp
    with_reducible rfl
  rotate_left
  · go_simp
    rfl
  refine pure_ (i := 5) (N := some 10) (v := ?_) (a' := ?_) #[true, true, true, true, true, true] rfl rfl (by kernel_rfl) (fun _ _ _ h => h) (Or.inl ⟨by rfl, ?_⟩) ?_ ?_
  rotate_left
  · intro w'
    go_simp
    with_reducible rfl
  rotate_left
  · go_simp
    rfl
  refine done_ (by kernel_rfl) ?_
  clear hHeld HD1 HS2 HT2
  have HI : Hid (strOfNums (rkV x) = strOfNums (rkV y) → x = y) := Lib.hid (str_inj HX.out HY.out)
  have HE : Hid (x = y → strOfNums (rkV x) = strOfNums (rkV y)) := Lib.hid (fun h => by rw [h])
  generalize strOfNums (rkV x) = s at *
  generalize strOfNums (rkV y) = t at *
  cases h1 : Op.bytesLess s.toList t.toList with
  | true =>
    have HZ : Hid (((-1 : Int) == 0) = eqB (x = y)) := Lib.hid (by
      rw [eqB_false (fun h => ?_)]
      · rfl
      · rw [HE.out h, less_self] at h1; cases h1)
    go_wp2_with (fail)
    go_ret
    exact ⟨_, rfl, HZ, HBd⟩
  | false =>
    cases h2 : (s.toList == t.toList) with
    | false =>
      have HZ : Hid (((1 : Int) == 0) = eqB (x = y)) := Lib.hid (by
        rw [eqB_false (fun h => ?_)]
        · rfl
        · rw [HE.out h] at h2; simp at h2)
      go_wp2_with (fail)
      go_ret
      exact ⟨_, rfl, HZ, HBd⟩
    | true =>
      have HZ : Hid (((0 : Int) == 0) = eqB (x = y)) := Lib.hid (by rw [eqB_true (HI.out (list_eq h2))]; rfl)
      go_wp2_with (fail)
      go_ret
      exact ⟨_, rfl, HZ, HBd⟩
end Go.Proofs.Ytpplnhefpcofoaa.PDeltaJoin
