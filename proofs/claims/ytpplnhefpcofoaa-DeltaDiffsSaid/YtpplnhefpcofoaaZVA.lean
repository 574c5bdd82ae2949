/- values, copied. -/
import Derived.Test.YtpplnhefpcofoaaZIC
import Derived.Test.YtpplnhefpcofoaaZT
namespace Go.Proofs.Ytpplnhefpcofoaa.PDeltaJoin
open Go.RowKit Go.Proofs.YtpplnhefpcofoaaW.PrintWords Go.Proofs.YtpplnhefpcofoaaW.PrintLast
set_option linter.unusedVariables false
set_option linter.unusedSimpArgs false
/-- The same for a range over the closure. -/
theorem stops51 {w0 w : World} (a b : List S63) (A B : Option Addr) (ca cb : Nat) (hA : Kd.C k63 w0 A a.length a) (hB : Kd.C k63 w0 B b.length b) (hW : Below w0.heap.size w0 w) (b1 b2 b3 : Nat) (X : Nat → Prop)
    (h1 : Boxed w b1 22 (.slice A a.length ca)) (h2 : Boxed w b2 22 (.slice B b.length cb)) (h3 : Boxed w b3 69 (.func (.func 36) #[] #[])) (hx : ¬ X b1 ∧ ¬ X b2 ∧ ¬ X b3) (hX : ∀ k, X k → w0.heap.size ≤ k) :
    SeqStopsK Fence.wide 8 Try.prog 51 #[.pointer (some ⟨b1, 0, none⟩), .pointer (some ⟨b2, 0, none⟩), .pointer (some ⟨b3, 0, none⟩)] (fun x : {x : PVC w0 // x.p ∈ mrgC a b} => encC x.1) (KpX w.heap.size X) (fun xs => xs.map (fun x => x.1.p) = mrgC a b) (fun _ => True) (mrgC a b).length w := by
  intro l J Jx W hWw hJ hJx hY h0
  refine (free_wide.calls (iter51 a b A B ca cb hA hB W (hW.trans (hWw.mono hW.size)) b1 b2 b3 w.heap.size l 7 X (fun xs V => ∃ ys : List {x : PVC w0 // x.p ∈ mrgC a b}, ys.map Subtype.val = xs ∧ J ys V) (fun xs V => ∃ ys : List {x : PVC w0 // x.p ∈ mrgC a b}, ys.map Subtype.val = xs ∧ Jx ys V)
    (fun xs V V' row hs hg hr => by obtain ⟨ys, h1, h2⟩ := hs; exact ⟨ys, h1, hJ ys V V' row h2 hg hr⟩) (Boxed.below' h1 hWw) (Boxed.below' h2 hWw) (Boxed.below' h3 hWw) ⟨h1.lt, hx.1, h2.lt, hx.2.1, h3.lt, hx.2.2⟩ hWw.size hW.size hX ?_ ⟨[], rfl, h0⟩)).mono ?_
  · rintro pre x W1 ⟨ys, rfl, hj⟩ ⟨rest, hr⟩
    have hm : x.p ∈ mrgC a b := by rw [← hr]; simp
    have hlen : ys.length < (mrgC a b).length := by have := congrArg List.length hr; simp at this; omega
    obtain ⟨fn, tmps, assign, body, hy, hR⟩ := hY ys ⟨x, hm⟩ W1 hj hlen
    refine ⟨fn, tmps, assign, body, hy, hR.mono ?_⟩
    rintro e W' (⟨he, hj', hk⟩ | ⟨he, hj'⟩)
    · exact .inl ⟨he, ⟨ys ++ [⟨x, hm⟩], by simp, hj'⟩, hk⟩
    · exact .inr ⟨he, ⟨ys ++ [⟨x, hm⟩], by simp, hj'⟩⟩
  · rintro e W' ⟨he, ⟨xs, hxs, ys, rfl, hj⟩ | ⟨pre, _, ys, rfl, hj⟩⟩
    · exact ⟨he, .inl ⟨ys, by rw [List.map_map] at hxs; exact hxs, hj⟩⟩
    · exact ⟨he, .inr ⟨ys, trivial, hj⟩⟩
end Go.Proofs.Ytpplnhefpcofoaa.PDeltaJoin

namespace Go.Proofs.Ytpplnhefpcofoaa.PDeltaJoin
open Go.RowKit Go.Proofs.YtpplnhefpcofoaaW.PrintWords Go.Proofs.YtpplnhefpcofoaaW.PrintLast
set_option linter.unusedVariables false
set_option linter.unusedSimpArgs false
set_option maxRecDepth 100000 in
set_option maxHeartbeats 4000000 in
theorem values52' : ∀ (N : Nat) (l : List S87), SizeOf.sizeOf l ≤ N → ∀ (A : Option Addr) (c : Nat) (w : World), Kd.C k87 w A l.length l → partsV l ≤ 100000 →
    Calls Try.prog 52 #[.slice A l.length c] w fun e w' => ∃ v, e = .returned v ∧ Hid (Kd.R k87 87 w' w.heap.size (fun _ => True) v l) ∧ Hid (Below w.heap.size w w') := by
  intro N
  induction N with
  | zero => intro l h; cases l <;> simp at h
  | succ N ih =>
    intro l hN A c w hC hp
    obtain ⟨n, hn⟩ : ∃ n, n = l.length := ⟨_, rfl⟩
    have HC := Lib.hid hC
    have Hp := Lib.hid hp
    have Hn := Lib.hid hn
    have IH := Lib.hid ih
    have HN := Lib.hid hN
    have hn64 : n ≤ 100000 := by have := partsV_len l; omega
    have Hn64 := Lib.hid hn64
    clear hC hp ih hN
    rw [← hn]
    clear hn
    go_enter Try.func52, Try.ntmps52
    go_wp2_with (fail)
    go_loopw [3, 8] (fun v3 v8 wr => ∃ k : Nat, k ≤ n ∧ v8 = .int .i64 k ∧ Hid (Kd.R k87 87 wr w.heap.size (fun _ => True) v3 (l.take k)) ∧ Hid (Below w.heap.size w wr)) (fun _ v8 _ => n - (intOf v8).toNat)
    case atStart => exact ⟨0, Nat.zero_le _, rfl, Lib.hid (Kd.R_nil _ _ _ _ _), Lib.hid (Below.refl _ _)⟩
    case round =>
      obtain ⟨k, hk, rfl, HO, HB⟩ := hrel
      have hkl : (l.take k).length = k := by rw [List.length_take, ← Hn.out]; omega
      obtain ⟨Au, cu, hv⟩ := Kd.R_slice HO.out
      rw [hkl] at hv
      subst hv
      clear hkl
      by_cases hlt : k < n
      · obtain ⟨ad, A3, c3, rfl, e0, e1, e2, e3, hl3, hC3⟩ := at_T87 HC.out (k : Int) (by omega) (by rw [← Hn.out]; omega)
        have hmem : rd_T87 l (k : Int) ∈ l := getD_mem _ _ _ (by rw [Int.toNat_natCast, ← Hn.out]; exact hlt)
        have htk : l.take (k + 1) = l.take k ++ [rd_T87 l (k : Int)] := take_getD _ _ _ (by rw [← Hn.out]; exact hlt)
        generalize rd_T87 l (k : Int) = y at *
        have Htk := Lib.hid htk
        rw [Int.toNat_natCast] at e0 e1 e2 e3
        replace e0 := pw_cell_below HB.out e0
        replace e1 := pw_cell_below HB.out e1
        replace e2 := pw_cell_below HB.out e2
        replace e3 := pw_cell_below HB.out e3
        have HX := Lib.hid (blk_new wr (.cells #[.int .i64 y.f0, .int .i64 y.f1, .string y.f2, .slice A3 y.f3.length c3] 87))
        have HBa : Hid (Below wr.heap.size wr (wr.alloc (.cells #[.int .i64 y.f0, .int .i64 y.f1, .string y.f2, .slice A3 y.f3.length c3] 87))) := Lib.hid ((Below.refl _ _).alloc (Nat.le_refl _) _)
        have HSa : Hid ((wr.alloc (.cells #[.int .i64 y.f0, .int .i64 y.f1, .string y.f2, .slice A3 y.f3.length c3] 87)).heap.size = wr.heap.size + 1) := Lib.hid (World.size_alloc _ _)
        have HY := Lib.hid (IH.out y.f3 (by have := List.sizeOf_lt_of_mem hmem; have := HN.out; cases y; simp at *; omega) A3 c3 (wr.alloc (.cells #[.int .i64 y.f0, .int .i64 y.f1, .string y.f2, .slice A3 y.f3.length c3] 87)) (Kd.C_below hC3 (HB.out.trans (HBa.out.mono HB.out.size))) (by have := partsV_mem hmem; have := Hp.out; omega))
        have Hsz := Lib.hid (show w.heap.size ≤ wr.heap.size from HB.out.size)
        clear hmem htk hC3 hl3
        go_upto_region 5 with (fail)
        clear e0 e1 e2 e3
        generalize (wr.alloc (.cells #[.int .i64 y.f0, .int .i64 y.f1, .string y.f2, .slice A3 y.f3.length c3] 87)) = wa at *
        have q0 : wa.cell? ⟨wr.heap.size, 0, none⟩ = some (.int .i64 y.f0) := blk_at HX.out 0 rfl
        have f0 : wa.frozen? ⟨wr.heap.size, 0, none⟩ = false := blk_frozen HX.out 0
        have q1 : wa.cell? ⟨wr.heap.size, 1, none⟩ = some (.int .i64 y.f1) := blk_at HX.out 1 rfl
        have f1 : wa.frozen? ⟨wr.heap.size, 1, none⟩ = false := blk_frozen HX.out 1
        have q2 : wa.cell? ⟨wr.heap.size, 2, none⟩ = some (.string y.f2) := blk_at HX.out 2 rfl
        have f2 : wa.frozen? ⟨wr.heap.size, 2, none⟩ = false := blk_frozen HX.out 2
        have q3 : wa.cell? ⟨wr.heap.size, 3, none⟩ = some (.slice A3 y.f3.length c3) := blk_at HX.out 3 rfl
        have f3 : wa.frozen? ⟨wr.heap.size, 3, none⟩ = false := blk_frozen HX.out 3
        go_upto_region 6 with (go_at_call 52; refine HY.out.mono ?_; rintro e w1 ⟨v, rfl, hv, hb⟩
                               obtain ⟨Av, cv, rfl⟩ := Kd.R_slice hv.out
                               have HX1 := Lib.hid (blk_below HX.out hb.out)
                               have g3 : w1.frozen? ⟨wr.heap.size, 3, none⟩ = false := blk_frozen HX1.out 3
                               have d3 : w1.cell? ⟨wr.heap.size, 3, none⟩ = some (.slice A3 y.f3.length c3) := blk_at HX1.out 3 rfl
                               have HV1 := Lib.hid hv.out
                               have HB1 := Lib.hid (HBa.out.trans (hb.out.mono HBa.out.size))
                               have HS1 := Lib.hid hb.out.size
                               clear hb hv)
        have HX2 : Hid ((w1.setCell ⟨wr.heap.size, 3, none⟩ (.slice Av y.f3.length cv)).heap[wr.heap.size]? = some (.cells #[.int .i64 y.f0, .int .i64 y.f1, .string y.f2, .slice Av y.f3.length cv] 87 (0, 0))) := Lib.hid (blk_put HX1.out 3 _ rfl)
        have HV2 := Lib.hid (R_low HV1.out (p := ⟨wr.heap.size, 3, none⟩) (by rw [HSa.out]; exact Nat.lt_succ_self _) (.slice Av y.f3.length cv))
        have HB2 : Hid (Below wr.heap.size wr (w1.setCell ⟨wr.heap.size, 3, none⟩ (.slice Av y.f3.length cv))) := Lib.hid (HB1.out.setCell (Nat.le_refl _) _)
        have HO2 := Lib.hid (Kd.R_below HO.out HB2.out)
        have HT2 := Lib.hid (HB.out.trans (HB2.out.mono HB.out.size))
        have HLU := Lib.hid (Kd.R_lt HO.out)
        clear HX1 HV1 HB1 HS1 g3 d3 q0 q1 q2 q3 f0 f1 f2 f3 HX
        generalize w1.setCell ⟨wr.heap.size, 3, none⟩ (.slice Av y.f3.length cv) = w2 at *
        have q0 : w2.cell? ⟨wr.heap.size, 0, none⟩ = some (.int .i64 y.f0) := blk_at HX2.out 0 rfl
        have q1 : w2.cell? ⟨wr.heap.size, 1, none⟩ = some (.int .i64 y.f1) := blk_at HX2.out 1 rfl
        have q2 : w2.cell? ⟨wr.heap.size, 2, none⟩ = some (.string y.f2) := blk_at HX2.out 2 rfl
        have q3 : w2.cell? ⟨wr.heap.size, 3, none⟩ = some (.slice Av y.f3.length cv) := blk_at HX2.out 3 rfl
        go_wp2_with (at_builtin; refine Kd.R_append k87 (w0 := w) w.heap.size rfl (.tmp 16) (.tmp 18) 60 87 (.agg #[.int .i64 0, .int .i64 0, .string ⟨#[]⟩, .slice none 0 0]) 56 rfl Try.underlying60 info87 rfl (by decide) (by decide) (.slice Au k cu) (l.take k) y _ (fun _ => True) (fun k_ => True ∧ some k_ ≠ (Value.slice Au k cu).ownBlock) rfl rfl ?hp (fun _ hk => hk) (fun _ _ => trivial) HO2.out HT2.out ?hS ?hl ?_
                     case hp => exact k87_mkM _ _ _ y (Kd.R_lower (Kd.R_new' HV2.out (fun k hk => by have := HLU.out k hk; rw [HSa.out]; omega)) (by rw [HSa.out]; have := Hsz.out; omega))
                     case hS => exact HT2.out.size
                     case hl => rw [List.length_take, ← Hn.out]; have := Hn64.out; omega
                     intro v1 w5 hO hB hg hat
                     have HO5 := Lib.hid hO
                     have HB5 := Lib.hid hB
                     clear hO hB hg hat)
        go_roundw
        case rel =>
          refine ⟨k + 1, by omega, by go_num, ?_, HB5⟩
          rw [Htk.out]; exact HO5
        case measure => simp [intOf]; omega
      · go_wp2_with (fail)
        obtain rfl : k = n := by omega
        rw [List.take_of_length_le (by rw [Hn.out]; exact Nat.le_refl _)] at HO
        go_ret
        exact ⟨_, rfl, HO, HB⟩
theorem values52 (l : List S87) (A : Option Addr) (c : Nat) (w : World) (hC : Kd.C k87 w A l.length l) (hc : l.length ≤ c) (hp : partsV l ≤ 100000) :
    Calls Try.prog 52 #[.slice A l.length c] w fun e w' => ∃ v, e = .returned v ∧ Hid (Kd.R k87 87 w' w.heap.size (fun _ => True) v l) ∧ Hid (Below w.heap.size w w') := values52' _ l (Nat.le_refl _) A c w hC hp
end Go.Proofs.Ytpplnhefpcofoaa.PDeltaJoin
