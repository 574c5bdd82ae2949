/- A cell in new memory. -/
import Derived.Test.YtpplnhefpcofoaaZCB
namespace Go.Proofs.Ytpplnhefpcofoaa.PDeltaJoin
open Go.RowKit Go.Proofs.YtpplnhefpcofoaaW.PrintWords Go.Proofs.YtpplnhefpcofoaaW.PrintLast
set_option linter.unusedVariables false
set_option linter.unusedSimpArgs false

theorem chk_parts : ∀ (N : Nat), (∀ (x : S87) (d p : Nat), SizeOf.sizeOf x ≤ N → (chkV x d p).1 = 0 → (chkV x d p).2 = p + 1 + partsV x.f3) ∧ (∀ (l : List S87) (d p : Nat), SizeOf.sizeOf l ≤ N → (chkL l d p).1 = 0 → (chkL l d p).2 = p + partsV l)
  | 0 => ⟨fun x => by cases x; intro d p h; simp at h, fun l => by cases l <;> (intro d p h; simp at h)⟩
  | N + 1 => by
    obtain ⟨iv, il⟩ := chk_parts N
    refine ⟨fun x d p h h0 => ?_, fun l d p h h0 => ?_⟩
    · obtain ⟨f0, f1, f2, f3⟩ := x
      rw [chkV_eq _ _ _ _ _ _ _ rfl] at h0 ⊢
      split at h0 <;> try (simp at h0; done)
      split at h0 <;> try (simp at h0; done)
      split at h0 <;> try (simp at h0; done)
      split at h0 <;> try (simp at h0; done)
      split at h0 <;> try (simp at h0; done)
      split at h0 <;> try (simp at h0; done)
      rename_i h1 h2 h3 h4 h5 h6
      rw [if_neg h1, if_neg h2, if_neg h3, if_neg h4, if_neg h5, if_neg h6]
      exact il _ _ _ (by simp at h; omega) h0
    · cases l with
      | nil => rw [chkL_nil]; rfl
      | cons y ys =>
        rw [chkL_cons] at h0 ⊢
        split at h0
        · rename_i h1; exact absurd h0 h1
        · rename_i h1
          rw [if_neg h1]
          have h2 : (chkV y d p).1 = 0 := by simpa using h1
          simp at h
          rw [il ys d _ (by omega) h0, iv y d p (by omega) h2]
          unfold partsV
          rw [List.length_cons, List.map_cons, List.sum_cons, S87.parts_eq]
          unfold partsV
          omega
theorem chkV_parts {x : S87} {d p : Nat} (h : (chkV x d p).1 = 0) : p + 1 + partsV x.f3 ≤ 12 := by
  have h1 := (chk_parts _).1 x d p (Nat.le_refl _) h
  have h2 := chkV_le x d p h
  omega
theorem chkVals_ok : ∀ {l : List S87}, chkVals l = 0 → ∀ y ∈ l, (chkV y 0 0).1 = 0
  | [], _, _, hy => by cases hy
  | z :: zs, h, y, hy => by
    rw [chkVals] at h
    split at h
    · rename_i h1; exact absurd h h1
    · rename_i h1
      rcases List.mem_cons.1 hy with rfl | hy
      · simpa using h1
      · exact chkVals_ok h y hy
theorem chkVals_parts : ∀ {l : List S87}, chkVals l = 0 → partsV l ≤ 12 * l.length
  | [], _ => by simp [partsV]
  | y :: ys, h => by
    have h1 := chkV_parts (chkVals_ok h y (List.mem_cons_self ..))
    have h2 : chkVals ys = 0 := by
      rw [chkVals] at h
      split at h
      · rename_i h1; exact absurd h h1
      · exact h
    have h3 := chkVals_parts h2
    unfold partsV at h3 ⊢
    rw [List.length_cons, List.map_cons, List.sum_cons, S87.parts_eq]
    omega
/-- A cell of a valid state. -/
def OkC (c : S63) : Prop := c.f0.size ≤ 12 ∧ c.f1.length ≤ 6 ∧ chkVals c.f1 = 0
theorem OkC.parts {c : S63} (h : OkC c) : partsV c.f1 ≤ 100000 := by have := chkVals_parts h.2.2; have := h.2.1; omega
theorem chkCells_ok : ∀ (l : List S63) (p : Option ByteArray), chkCells p l = 0 → ∀ c ∈ l, OkC c
  | [], _, _, c, hc => by cases hc
  | d :: ds, p, h, c, hc => by
    rw [chkCells_cons] at h
    split at h
    · simp at h
    · rename_i h1
      split at h
      · simp at h
      · split at h
        · simp at h
        · rename_i h3
          split at h
          · rename_i h4; exact absurd h h4
          · rename_i h4
            rcases List.mem_cons.1 hc with rfl | hc
            · exact ⟨by omega, by omega, by simpa using h4⟩
            · exact chkCells_ok ds _ h c hc
def Copied (x : S63) (w : World) (e : Ending) (w' : World) : Prop := ∃ v, e = .returned (.agg #[.string x.f0, v]) ∧ Hid (Kd.R k87 87 w' w.heap.size (fun _ => True) v x.f1) ∧ Hid (Below w.heap.size w w')
set_option maxRecDepth 100000 in
set_option maxHeartbeats 16000000 in
theorem copied37 (x : S63) (A : Option Addr) (c : Nat) (w : World) (hC : Kd.C k87 w A x.f1.length x.f1) (hc : x.f1.length ≤ c) (hx : OkC x) : Calls Try.prog 37 #[.agg #[.string x.f0, .slice A x.f1.length c]] w fun e w' => Copied x w e w' := by
  have HTT : Hid (∀ W, Below w.heap.size w W → Calls Try.prog 52 #[.slice A x.f1.length c] W fun e w' => ∃ v, e = .returned v ∧ Hid (Kd.R k87 87 w' W.heap.size (fun _ => True) v x.f1) ∧ Hid (Below W.heap.size W w')) := Lib.hid (fun W hW => values52 x.f1 A c W (Kd.C_below hC hW) hc hx.parts)
  obtain ⟨n, hn⟩ : ∃ n, n = x.f1.length := ⟨_, rfl⟩
  have Hn := Lib.hid hn
  rw [← hn] at HTT ⊢
  have HX : Hid (((w.alloc (.cells #[.string x.f0, .slice A n c] 63)).alloc (.cells #[.string ⟨#[]⟩, .slice none 0 0] 63)).heap[w.heap.size]? = some (.cells #[.string x.f0, .slice A n c] 63 (0, 0))) := Lib.hid (blk_alloc (blk_new w _) _)
  have HZ : Hid (((w.alloc (.cells #[.string x.f0, .slice A n c] 63)).alloc (.cells #[.string ⟨#[]⟩, .slice none 0 0] 63)).heap[w.heap.size + 1]? = some (.cells #[.string ⟨#[]⟩, .slice none 0 0] 63 (0, 0))) := Lib.hid (by
    have := blk_new (w.alloc (.cells #[.string x.f0, .slice A n c] 63)) (.cells #[.string ⟨#[]⟩, .slice none 0 0] 63)
    rw [World.size_alloc] at this
    exact this)
  have HB : Hid (Below w.heap.size w ((w.alloc (.cells #[.string x.f0, .slice A n c] 63)).alloc (.cells #[.string ⟨#[]⟩, .slice none 0 0] 63))) := ((Below.refl _ _).alloc (Nat.le_refl _) _).alloc (by simp) _
  have HS : Hid (w.heap.size + 2 ≤ ((w.alloc (.cells #[.string x.f0, .slice A n c] 63)).alloc (.cells #[.string ⟨#[]⟩, .slice none 0 0] 63)).heap.size) := Lib.hid (by simp)
  clear hC hc hx hn
  go_enter Try.func37, Try.ntmps37
  go_upto_region 1 with (fail)
  refine start_ (n := 7) (S := (fun w' => w'.cell? ⟨w.heap.size, 0, none⟩ = some (.string x.f0) ∧ w'.cell? ⟨w.heap.size, 1, none⟩ = some (.slice A n c))) (ds := [6]) #[false, false, false, false, false, false, false] (by kernel_rfl) rfl rfl ⟨blk_at HX.out 0 rfl, blk_at HX.out 1 rfl⟩ (fun hHeld => ?_)
  have HXd : Hid (((w.alloc (.cells #[.string x.f0, .slice A n c] 63)).alloc (.cells #[.string ⟨#[]⟩, .slice none 0 0] 63)).drew.heap[w.heap.size]? = some (.cells #[.string x.f0, .slice A n c] 63 (0, 0))) := HX.out
  have HZd : Hid (((w.alloc (.cells #[.string x.f0, .slice A n c] 63)).alloc (.cells #[.string ⟨#[]⟩, .slice none 0 0] 63)).drew.heap[w.heap.size + 1]? = some (.cells #[.string ⟨#[]⟩, .slice none 0 0] 63 (0, 0))) := HZ.out
  have HBd : Hid (Below w.heap.size w ((w.alloc (.cells #[.string x.f0, .slice A n c] 63)).alloc (.cells #[.string ⟨#[]⟩, .slice none 0 0] 63)).drew) := HB.out.drew
  have HSd : Hid (w.heap.size + 2 ≤ ((w.alloc (.cells #[.string x.f0, .slice A n c] 63)).alloc (.cells #[.string ⟨#[]⟩, .slice none 0 0] 63)).drew.heap.size) := HS.out
  clear HX HZ HB HS
  have HT := Lib.hid (HTT.out ((w.alloc (.cells #[.string x.f0, .slice A n c] 63)).alloc (.cells #[.string ⟨#[]⟩, .slice none 0 0] 63)).drew HBd.out)
  clear HTT
  generalize ((w.alloc (.cells #[.string x.f0, .slice A n c] 63)).alloc (.cells #[.string ⟨#[]⟩, .slice none 0 0] 63)).drew = Wd at hHeld HXd HZd HBd HSd HT ⊢
  refine pure_ (i := 0) (N := some 3) (v := ?_) (a' := ?_) #[true, false, false, false, false, false, false] rfl rfl (by kernel_rfl) (fun _ _ _ h => h) (Or.inl ⟨by rfl, ?_⟩) ?_ ?_
  rotate_left
  · intro w'
    go_simp
    with_reducible rfl
  rotate_left
  · go_simp
    rfl
  refine take_ (i := 1) (N := some 4) (v := ?_) (a' := ?_) #[true, true, false, false, false, false, false] rfl rfl (by kernel_rfl) (fun _ _ _ h => h) (Or.inl ⟨by rfl, ?_⟩) hHeld ?_ ?_
  rotate_left
  · rintro w' ⟨s0, s1⟩
    go_simp
    with_reducible rfl
  rotate_left
  · go_simp
    rfl
  refine pure_ (i := 2) (N := some 5) (v := ?_) (a' := ?_) #[true, true, true, false, false, false, false] rfl rfl (by kernel_rfl) (fun _ _ _ h => h) (Or.inl ⟨by rfl, ?_⟩) ?_ ?_
  rotate_left
  · intro w'
    go_simp
    with_reducible rfl
  rotate_left
  · go_simp
    rfl
  refine take_ (i := 3) (N := some 6) (v := ?_) (a' := ?_) #[true, true, true, true, false, false, false] rfl rfl (by kernel_rfl) (fun _ _ _ h => h) (Or.inl ⟨by rfl, ?_⟩) hHeld ?_ ?_
  rotate_left
  · rintro w' ⟨s0, s1⟩
    go_simp
    with_reducible rfl
  rotate_left
  · go_simp
    rfl
  refine one_ (i := 4) (N := some 7) #[true, true, true, true, true, false, false] rfl rfl (by kernel_rfl) (by decide) (fun K hK => ?_)
  refine goes_ Try.func52 (by kernel_rfl) rfl #[.slice A n c] (by rfl) rfl rfl (by simp only [List.map_toArray, List.map_cons, List.map_nil]; rfl) ?_
  refine HT.out.mono ?_
  rintro e W1 ⟨v, rfl, hv, hb⟩
  obtain ⟨Av, cv, hvv⟩ := Kd.R_slice hv.out
  rw [← Hn.out] at hvv
  subst hvv
  refine ⟨_, rfl, ?_⟩
  have HZ1 := Lib.hid (blk_below HZd.out hb.out)
  have HX1 := Lib.hid (blk_below HXd.out hb.out)
  have HB1 : Hid (Below w.heap.size w W1) := HBd.out.trans (hb.out.mono HBd.out.size)
  have HV1 := Lib.hid hv.out
  refine hK.out _ _ ⟨blk_at HX1.out 0 rfl, blk_at HX1.out 1 rfl⟩ (fun hHeld => ?_)
  clear hK K hb hv HZd HXd HBd HT
  refine norm_ (a' := ?_) ?_ ?_
  rotate_left
  · show Act.put _ (some 7) _ = _
    go_simp
    rfl
  refine pure_ (i := 5) (N := some 8) (v := ?_) (a' := ?_) #[true, true, true, true, true, true, false] rfl rfl (by kernel_rfl) (fun _ _ _ h => h) (Or.inl ⟨by rfl, ?_⟩) ?_ ?_
  rotate_left
  · intro w'
    go_simp
    with_reducible rfl
  rotate_left
  · go_simp
    rfl
  refine last_ (i := 6) (N := none) #[true, true, true, true, true, true, true] rfl rfl (by kernel_rfl) (by decide) (fun K hK => ?_)
  have x0 : W1.cell? ⟨w.heap.size + 1, 0, none⟩ = some (.string ⟨#[]⟩) := blk_at HZ1.out 0 rfl
  have z0 : W1.frozen? ⟨w.heap.size + 1, 0, none⟩ = false := blk_frozen HZ1.out 0
  have x1 : W1.cell? ⟨w.heap.size + 1, 1, none⟩ = some (.slice none 0 0) := blk_at HZ1.out 1 rfl
  have z1 : W1.frozen? ⟨w.heap.size + 1, 1, none⟩ = false := blk_frozen HZ1.out 1
  refine skip_ (w1 := (W1.setCell ⟨w.heap.size + 1, 0, none⟩ (.string x.f0)).setCell ⟨w.heap.size + 1, 1, none⟩ (.slice Av n cv)) (by rfl) rfl (by go_simp) ?_
  clear x0 z0 x1 z1
  refine hK.out _ _ ?_
  clear hK K hHeld
  refine done_ (by kernel_rfl) ?_
  go_wp2_with (fail)
  have hb4 : ((W1.setCell ⟨w.heap.size + 1, 0, none⟩ (.string x.f0)).setCell ⟨w.heap.size + 1, 1, none⟩ (.slice Av n cv)).heap[w.heap.size + 1]? = some (.cells #[.string x.f0, .slice Av n cv] 63 (0, 0)) := blk_put (blk_put HZ1.out 0 _ rfl) 1 _ rfl
  refine bodyPost_ret (results_cell_row rfl _ _ (w.heap.size + 1) 63 #[.string x.f0, .slice Av n cv] (0, 0) _ rfl hb4 Try.underlying63 rfl (by kernel_rfl)) rfl ⟨.slice Av n cv, rfl, ?_, ?_⟩
  · exact Lib.hid (Kd.R_lower (R_low (R_low HV1.out (p := ⟨w.heap.size + 1, 0, none⟩) (by have := HSd.out; show w.heap.size + 1 < _; omega) _) (p := ⟨w.heap.size + 1, 1, none⟩) (by have := HSd.out; show w.heap.size + 1 < _; omega) _) (by have := HSd.out; omega))
  · exact Lib.hid ((HB1.out.setCell (Nat.le_succ _) _).setCell (Nat.le_succ _) _)
end Go.Proofs.Ytpplnhefpcofoaa.PDeltaJoin
