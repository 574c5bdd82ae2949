/- List. -/
import Derived.Test.YtcbfddhdaamimaaLE
namespace Go.Proofs.Ytcbfddhdaamimaa.PLaneFifo
open Go.RowKit Go.Conc Go.Proofs.YtcbfddhdaamimaaW.PrintWords Go.Proofs.YtcbfddhdaamimaaW.PrintLast
set_option linter.unusedVariables false
set_option linter.unusedSimpArgs false

def ListAns (own : Nat → Nat) (w : World) (g : Nat) (rm : Int) (l : List Pr) (e : Ending) (w' : World) : Prop := ∃ own' c cap s r A cc l2, e = .returned (.slice A l.length cc) ∧ l2.map (·.1) = l.map (fun p => cop p.1) ∧ Hid (LaneAt own' w' g rm false l c cap s r) ∧ Hid (Upd (· = 1) own w own' w') ∧
  Hid ((pk k35 own' w').R 35 w' w.heap.size (fun k => own' k = 0) (.slice A l.length cc) l2)
set_option maxRecDepth 100000 in
set_option maxHeartbeats 4000000 in
theorem list15 (own : Nat → Nat) (w : World) (g c cap s r : Nat) (rm : Int) (l : List Pr) (h : LaneAt own w g rm false l c cap s r) (hl : l.length ≤ 900000) (hp : ∀ p ∈ l, partsR p.1.f1 ≤ 100000) :
    Calls Try.prog 15 #[.pointer (some ⟨g, 0, none⟩)] w fun e w' => ListAns own w g rm l e w' := by
  have q3 : w.cell? ⟨g, 3, none⟩ = some (.bool false) := blk_at h.hb 3 rfl
  have HD := Lib.hid (drain31 own w g c cap s r _ rm false l h.hb h.hc h.st (by omega))
  have HH := Lib.hid h
  have Hl := Lib.hid hl
  have HP := Lib.hid hp
  have Hgw := Lib.hid (blk_lt h.hb)
  have Hne := Lib.hid (blk_chan_ne h.hb h.hc)
  have hn9 := hl
  obtain ⟨n, hn⟩ : ∃ n, n = l.length := ⟨_, rfl⟩
  have Hn := Lib.hid hn
  rw [← hn] at hn9
  clear h hl hp hn
  go_enter Try.func15, Try.ntmps15
  go_upto_region 5 with (first
    | (go_at_call 31; refine HD.out.mono ?_; rintro e w2 ⟨v, rfl, hR, hO, s2, r2, hC2⟩; obtain ⟨Ao, co, rfl⟩ := Kd.R_slice hR.out
       have hb2 := (hO.out.block g Hgw.out Hne.out).trans HH.out.hb
       have hu2 : Upd (· = 1) own w (fresh own w 0) w2 := by
         have h1 : Upd (· = 1) own w own w2 := Upd.of_only hO.out HH.out.oc
         exact ⟨h1.os, h1.tape, h1.output, h1.size, fun k hk _ => fresh_old hk, h1.block⟩
       have HU2 := Lib.hid hu2
       have HSC : Hid (StC (pk k35 (fresh own w 0) w2) (fresh own w 0) w2 Ao l.length l) := Lib.hid (StC.newly (pk_R hR.out (S := (· = 1)) (by decide) hu2) (fun k hk => fresh_new hk))
       have HF := Lib.hid (fill28 (fresh own w 0) w2 g (some c) _ rm hb2 ((fresh_old Hgw.out).trans HH.out.og) l Ao co HSC.out Hl.out)
       clear hR hO hC2 hb2 hu2)
    | (go_at_call 28; refine HF.out.mono ?_; rintro e w3 ⟨rfl, own3, c3, cap3, s3, r3, HL3, HU3⟩))
  have HC3 := Lib.hid (StC_pk_upd HSC.out (S := (· = 1)) (by decide) HU3.out)
  have HU := Lib.hid (HU2.out.then HU3.out)
  clear HF HSC HU2 HU3 HD
  rw [← Hn.out]
  go_wp2_with (fail)
  go_loopw [4, 18] (fun v4 v18 wr => ∃ k, k ≤ n ∧ v18 = .int .i64 (k : Nat) ∧ Hid (Kd.R k35 35 wr w3.heap.size (fun _ => True) v4 ((l.take k).map fun p => cop p.1)) ∧ Hid (Below w3.heap.size w3 wr)) (fun _ v18 _ => n - (intOf v18).toNat)
  case atStart => exact ⟨0, Nat.zero_le _, rfl, Kd.R_nil _ _ _ _ _, Below.refl _ _⟩
  case round =>
    obtain ⟨k, hk, rfl, HO, HB⟩ := hrel
    have hkl : ((l.take k).map fun p => cop p.1).length = k := by rw [List.length_map, List.length_take, ← Hn.out]; omega
    obtain ⟨Au, cu, hv⟩ := Kd.R_slice HO.out
    rw [hkl] at hv
    subst hv
    have Hkl := Lib.hid hkl
    clear hkl
    by_cases hlt : k < n
    · obtain ⟨ad, y, B5, d5, B6, d6, rfl, hy, hsy, a0, a1, a2, a3, a4, a5, a6⟩ := at_pk (Kd.C_below HC3.out.now HB.out) k (by rw [← Hn.out]; exact hlt)
      have htk : (l.take (k + 1)).map (fun p => cop p.1) = ((l.take k).map fun p => cop p.1) ++ [cop y] := by
        rw [List.take_succ_eq_append_getElem (by rw [← Hn.out]; exact hlt), List.map_append, hy]
        rfl
      have Htk := Lib.hid htk
      obtain ⟨h1, h2, h3, h4⟩ := St35_open hsy
      have hpy : partsR y.f1 ≤ 100000 := by
        have := HP.out l[k] (List.getElem_mem _)
        rw [hy] at this
        exact this
      have HY : Hid (∀ W : World, PLift (Below wr.heap.size wr W) → _) := Lib.hid (fun W (hW : PLift (Below wr.heap.size wr W)) => copied27M y B5 d5 B6 d6 W ((h2.upd (S := fun _ => False) (own' := own3) (by decide) (Upd.of_below' HB.out (fun _ _ => rfl))).upd (S := fun _ => False) (own' := own3) (by decide) (Upd.of_below' hW.down (fun _ _ => rfl))).now h1 ((h4.upd (S := fun _ => False) (own' := own3) (by decide) (Upd.of_below' HB.out (fun _ _ => rfl))).upd (S := fun _ => False) (own' := own3) (by decide) (Upd.of_below' hW.down (fun _ _ => rfl))).now h3 hpy)
      have Hsz := Lib.hid (show w3.heap.size ≤ wr.heap.size from HB.out.size)
      clear hy hsy h1 h2 h3 h4 hpy htk
      go_wp2_with (first
        | (go_at_call 27; refine (HY.out _ ⟨(Below.refl _ _).alloc (Nat.le_refl _) _⟩).mono ?_; rintro e w4 ⟨v5, v6, rfl, hv5, hv6, hb⟩)
        | (at_builtin; refine Kd.R_append k35 (w0 := w3) w3.heap.size rfl (.tmp 22) (.tmp 25) 22 35 (.agg #[.int .i64 0, .string ⟨#[]⟩, .int .i64 0, .int .i64 0, .string ⟨#[]⟩, .slice none 0 0, .slice none 0 0]) 104 rfl Try.underlying22 info35 rfl (by decide) (by decide) (.slice Au k cu) ((l.take k).map fun p => cop p.1) (cop y) _ (fun _ => True) (fun k_ => True ∧ some k_ ≠ (Value.slice Au k cu).ownBlock) rfl rfl ?hp (fun _ hk => hk) (fun _ _ => trivial) ?hO ?hB ?hS ?hl ?_
           case hp => exact k35_mkM _ _ _ (cop y) (Kd.R_lower (Kd.R_new' hv5.out (fun i hi => by have := Kd.R_lt HO.out i hi; simp only [World.size_alloc]; omega)) (by simp only [World.size_alloc]; have := Hsz.out; omega)) (Kd.R_lower (Kd.R_new' hv6.out (fun i hi => by have := Kd.R_lt HO.out i hi; simp only [World.size_alloc]; omega)) (by simp only [World.size_alloc]; have := Hsz.out; omega))
           case hO => exact Kd.R_below (Kd.R_alloc HO.out _) hb.out
           case hB => exact (HB.out.alloc HB.out.size _).trans (hb.out.mono (by simp only [World.size_alloc]; have := Hsz.out; omega))
           case hS => have h1 := hb.out.size; have := Hsz.out; simp only [World.size_alloc] at h1; omega
           case hl => rw [Hkl.out]; omega
           intro v1 w5 HO2 HB2 hg hat
           have HO2' := Lib.hid HO2
           have HB2' := Lib.hid HB2
           clear HO2 HB2 hg hat))
      go_roundw
      case rel =>
        refine ⟨k + 1, by omega, by go_num, ?_, ?_⟩
        · rw [Htk.out]; exact HO2'
        · exact HB2'
      case measure => simp [intOf]; omega
    · go_wp2_with (fail)
      obtain rfl : k = n := by omega
      rw [List.take_of_length_le (by rw [Hn.out]; exact Nat.le_refl _)] at HO
      go_ret
      have hu : Upd (fun _ => False) own3 w3 (fresh own3 w3 0) wr := Upd.of_below HB.out 0
      obtain ⟨l2, hl2, hR2⟩ := pairs_of_R z35 (own := fresh own3 w3 0) (Kd.R_mono (Kd.R_bound HO.out) (fun i hi => fresh_new hi.2.1))
      exact ⟨fresh own3 w3 0, c3, cap3, s3, r3, Au, cu, l2, congrArg (fun m => Ending.returned (.slice Au m cu)) Hn.out, hl2, Lib.hid (HL3.out.upd (by decide) (by decide) hu), Lib.hid (HU.out.then (hu.mono (fun _ h => h.elim))), Lib.hid (by rw [← Hn.out]; exact Kd.R_lower hR2 HU.out.size)⟩
end Go.Proofs.Ytcbfddhdaamimaa.PLaneFifo
