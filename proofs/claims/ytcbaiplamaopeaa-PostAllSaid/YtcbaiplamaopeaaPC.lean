/- empty. -/
import Derived.Test.YtcbaiplamaopeaaPB
namespace Go.Proofs.Ytcbaiplamaopeaa.PPostShots
open Go.RowKit Go.Conc Go.Proofs.YtcbaiplamaopeaaW.PrintWords Go.Proofs.YtcbaiplamaopeaaW.PrintLast Go.Proofs.Ytcbaiplamaopeaa.PPost
set_option linter.unusedVariables false
set_option linter.unusedSimpArgs false

theorem St_z40 (own : Nat → Nat) (w : World) : St k40 own w z40 [.int .i64 0, .slice none 0 0, .slice none 0 0, .slice none 0 0] := fun S o2 w2 hS hu => k40_mk w2 z40 (Nat.le_refl _) (Kd.C_nil _ _) (Nat.le_refl _) (Kd.C_nil _ _) (Nat.le_refl _) (Kd.C_nil _ _)
theorem rep_set {α : Type} (l : List α) (z : α) (k : Nat) (h : k < l.length) : (List.replicate k z ++ l.drop k).set k z = List.replicate (k + 1) z ++ l.drop (k + 1) := by
  rw [List.set_append_right _ _ (by simp)]
  rw [List.drop_eq_getElem_cons h, List.length_replicate, Nat.sub_self, List.set_cons_zero, List.replicate_succ', List.append_assoc]
  rfl
/-- All that was handed in is let go. -/
def PS.emptied (S : PS) : PS := { S with wh := List.replicate S.n 0, ps := List.replicate S.n z40, buf := [] }
/-- The first k are. -/
def PS.emptyK (S : PS) (k : Nat) : PS := { S with wh := List.replicate k 0 ++ S.wh.drop k, ps := List.replicate k z40 ++ S.ps.drop k, buf := [] }
theorem PS.emptyK_all (S : PS) (h : S.Ok) : S.emptyK S.n = S.emptied := by
  unfold PS.emptyK PS.emptied
  rw [List.drop_of_length_le (by rw [h.lw]; exact Nat.le_refl _), List.drop_of_length_le (by rw [h.lp]; exact Nat.le_refl _), List.append_nil, List.append_nil]
theorem PS.emptyK_succ (S : PS) (h : S.Ok) (k : Nat) (hk : k < S.n) : ((S.emptyK k).setW k 0).setP k z40 = S.emptyK (k + 1) := by
  unfold PS.emptyK PS.setW PS.setP
  simp only [PS.mk.injEq, true_and, and_true]
  exact ⟨rep_set _ _ _ (by rw [h.lw]; exact hk), rep_set _ _ _ (by rw [h.lp]; exact hk)⟩
def bufLen (w : World) (c : Nat) : Nat := match w.heap[c]? with
  | some (.chan _ buf _ _ _ _) => buf.size
  | _ => 0
theorem bufLen_eq {w : World} {c cap s r : Nat} {buf : Array Value} {cl tm : Bool} (h : w.heap[c]? = some (.chan cap buf cl s r tm)) : bufLen w c = buf.size := by simp [bufLen, h]
set_option maxRecDepth 100000 in
set_option maxHeartbeats 4000000 in
theorem empty25 (own : Nat → Nat) (w : World) (g tg : Nat) (S : PS) (bm c bw bp nm s r : Nat) (pps : List PP) (pbuf : List (Nat × PP)) (h : PostAt own w g tg S bm c bw bp nm s r pps pbuf) (h0 : tg ≠ 0) :
    Calls Try.prog 25 #[.pointer (some ⟨g, 0, none⟩)] w fun e w' => e = .returned (.tuple #[]) ∧ PostTo own w g tg nm S.emptied w' := by
  have HOK := Lib.hid h.ok
  have H0 := Lib.hid h0
  have HH := Lib.hid h
  have hn12 := h.ok.n2
  obtain ⟨n, hn⟩ : ∃ n, n = S.n := ⟨_, rfl⟩
  have Hn := Lib.hid hn
  rw [← hn] at hn12
  clear h h0 hn
  go_enter Try.func25, Try.ntmps25
  go_upto_block 0 with (fail)
  go_cut [] (fun wx => ∃ s r, Hid (PostAt own wx g tg (S.setB []) bm c bw bp nm s r pps []) ∧ Hid (Upd (· = tg) own w own wx))
  case first =>
    go_wp2_with (fail)
    go_loopw [] (fun wr => ∃ s r pb, Hid (PostAt own wr g tg (S.setB (pb.map fun e => (e.1, e.2.1))) bm c bw bp nm s r pps pb) ∧ Hid (Upd (· = tg) own w own wr)) (fun wr => bufLen wr c)
    case atStart => exact ⟨s, r, pbuf, Lib.hid (by rw [HH.out.e2]; exact HH.out), Lib.hid (Upd.refl _ _ _)⟩
    case round =>
      obtain ⟨s, r, pb, HP, HU⟩ := hrel
      have q4 : wr.cell? ⟨g, 4, none⟩ = some (.chan (some c)) := blk_at HP.out.hb 4 rfl
      go_upto_region 1 with (fail)
      refine sem_first ?_
      rcases pb with _ | ⟨⟨tk, x, cs⟩, pb⟩
      · refine sem_sel_none (z := .agg #[.int .i64 0, .int .i64 0, .slice none 0 0, .slice none 0 0, .slice none 0 0]) (c := c) (cap := S.n) (s := s) (r := r) (tm := false) rfl (by rfl) ?_ HP.out.hc ?_
        · simp [go_sem, execOp, rcase, Act.eval, Try.zeroValue78]
        refine sem_norm (a' := ?_) ?_ ?_
        rotate_left
        · simp only [Act.put, List.setIfInBounds_toArray, List.set_cons_zero, List.set_cons_succ]
          rfl
        refine sem_rest ?_
        go_wp2_with (fail)
        go_meet
        exact ⟨s, r, HP, HU⟩
      · refine sem_sel_recv (z := .agg #[.int .i64 0, .int .i64 0, .slice none 0 0, .slice none 0 0, .slice none 0 0]) (c := c) (cap := S.n) (buf := bufP ((tk, x, cs) :: pb)) (s := s) (r := r) (tm := false) (closed := false) rfl (by rfl) ?_ HP.out.hc (by rw [bufP_size]; simp) ?_
        · simp [go_sem, execOp, rcase, Act.eval, Try.zeroValue78]
        rw [bufP_head, bufP_tail]
        refine sem_norm (a' := ?_) ?_ ?_
        rotate_left
        · simp only [Act.put, List.setIfInBounds_toArray, List.set_cons_zero, List.set_cons_succ]
          rfl
        refine sem_rest ?_
        have HP2 := Lib.hid (HP.out.chan H0.out pb s (r + 1) (fun e he => HP.out.s2 e (by simp [he])) (List.nodup_cons.1 HP.out.nodup).2 (fun e he => HP.out.waits e (by simp [he])))
        have HU2 := Lib.hid (HU.out.then (Upd.chan HP.out.oc S.n (bufP pb) false s (r + 1) false))
        go_wp2_with (fail)
        go_roundw
        case rel => exact ⟨s, r + 1, pb, HP2, HU2⟩
        case measure => rw [bufLen_eq (chan_now wr HP.out.hc), bufLen_eq HP.out.hc, bufP_size, bufP_size, List.length_cons]; omega
  case rest =>
    obtain ⟨s, r, HP, HU⟩ := hcut
    clear HH
    have q5 : wc.cell? ⟨g, 5, none⟩ = some (.slice (some ⟨bw, 0, none⟩) n n) := by rw [Hn.out]; exact blk_at HP.out.hb 5 rfl
    go_wp2_with (fail)
    go_loopw [15] (fun v15 wr => ∃ k pq, k ≤ n ∧ v15 = .int .i64 (k : Nat) ∧ Hid (PostAt own wr g tg (S.emptyK k) bm c bw bp nm s r pq []) ∧ Hid (Upd (· = tg) own w own wr)) (fun v15 _ => n - (intOf v15).toNat)
    case atStart => exact ⟨0, pps, Nat.zero_le _, rfl, by
      refine Lib.hid ?_
      have h1 : S.emptyK 0 = S.setB [] := by simp [PS.emptyK, PS.setB]
      rw [h1]; exact HP.out, HU⟩
    case round =>
      obtain ⟨k, pq, hk, rfl, HP, HU⟩ := hrel
      by_cases hlt : k < n
      · have q5 : wr.cell? ⟨g, 5, none⟩ = some (.slice (some ⟨bw, 0, none⟩) n n) := by rw [Hn.out]; exact blk_at HP.out.hb 5 rfl
        have z5 : wr.frozen? ⟨bw, k, none⟩ = false := blk_frozen HP.out.hw k
        have y5 := HP.out.wcell k (by rw [← show n = (S.emptyK k).n from Hn.out]; exact hlt)
        have HP2 := Lib.hid (HP.out.setW H0.out k 0 (fun e he => by cases he))
        have HU2 := Lib.hid (HU.out.then (set_own HP.out.ow k (.int .i64 0)))
        go_upto_region 6 with (fail)
        clear q5 z5 y5
        generalize wr.setCell ⟨bw, k, none⟩ (.int .i64 0) = w2 at *
        have q6 : w2.cell? ⟨g, 6, none⟩ = some (.slice (some ⟨bp, 0, none⟩) n n) := by rw [Hn.out]; exact blk_at HP2.out.hb 6 rfl
        have y6 := HP2.out.pcell k (by rw [← show n = ((S.emptyK k).setW k 0).n from Hn.out]; exact hlt)
        have z6 : ∀ j, w2.frozen? ⟨bp, j, none⟩ = false := fun j => blk_frozen HP2.out.hp j
        obtain ⟨v0, v1, v2, v3, y60, y61, y62, y63⟩ := y6
        have z60 := z6 (k * 4)
        have z61 := z6 (k * 4 + 1)
        have z62 := z6 (k * 4 + 2)
        have z63 := z6 (k * 4 + 3)
        clear z6
        have HP3 := Lib.hid (HP2.out.setP H0.out k (by rw [← show n = ((S.emptyK k).setW k 0).n from Hn.out]; exact hlt) z40 _ _ _ _ (St_z40 own w2))
        have HU3 := Lib.hid (HU2.out.then (HP2.out.setP_upd k (.int .i64 0) (.slice none 0 0) (.slice none 0 0) (.slice none 0 0)))
        go_wp2_with (fail)
        go_roundw
        case rel =>
          refine ⟨k + 1, pq.set k (z40, [.int .i64 0, .slice none 0 0, .slice none 0 0, .slice none 0 0]), by omega, by go_num, ?_, HU3⟩
          rw [← PS.emptyK_succ S HOK.out k (by rw [← Hn.out]; exact hlt)]
          exact HP3
        case measure => simp [intOf]; omega
      · obtain rfl : k = n := by omega
        go_wp2_with (fail)
        go_end0
        rw [Hn.out, PS.emptyK_all S HOK.out] at HP
        exact ⟨rfl, own, bm, c, bw, bp, nm, s, r, pq, [], HP.out, HU.out, Nat.le_refl _⟩
end Go.Proofs.Ytcbaiplamaopeaa.PPostShots
