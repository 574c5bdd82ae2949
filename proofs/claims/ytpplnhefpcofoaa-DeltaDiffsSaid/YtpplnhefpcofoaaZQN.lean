/- The reference's parts of a valid value. -/
import Derived.Test.YtpplnhefpcofoaaZQM
import Derived.Test.YtpplnhefpcofoaaZQD
namespace Go.Proofs.Ytpplnhefpcofoaa.PDeltaJoin
open Go.RowKit Go.Proofs.YtpplnhefpcofoaaW.PrintWords Go.Proofs.YtpplnhefpcofoaaW.PrintLast
set_option linter.unusedVariables false
set_option linter.unusedSimpArgs false
/-- Parts, answered. -/
def PartsAns (x : S87) (w : World) (e : Ending) (w' : World) : Prop :=
  ∃ A c, e = .returned (.slice A (partsF x).length c) ∧ Hid (Kd.C k111 w' A (partsF x).length (partsF x)) ∧ Hid ((partsF x).length ≤ c) ∧ Hid (Below w.heap.size w w')
set_option maxRecDepth 100000 in
set_option maxHeartbeats 16000000 in
theorem parts64 (x : S87) (A : Option Addr) (c : Nat) (w0 w : World) (hC : Kd.C k87 w0 A x.f3.length x.f3) (hB : Below w0.heap.size w0 w) (hv : (chkV x 0 0).1 = 0) :
    Calls Try.prog 64 #[.agg #[.int .i64 x.f0, .int .i64 x.f1, .string x.f2, .slice A x.f3.length c]] w fun e w' => PartsAns x w e w' := by
  have HY : Hid (∀ W, Below w.heap.size w W → Calls Try.prog 59 #[.agg #[.int .i64 x.f0, .int .i64 x.f1, .string x.f2, .slice A x.f3.length c], .int .i64 0, .slice none 0 0] W fun e w' => FlatAns w.heap.size x 0 [] (Value.slice none 0 0).ownBlock W e w') := Lib.hid (fun W h =>
    flat59 _ x (Nat.le_refl _) A c w0 W w.heap.size 0 (.slice none 0 0) [] hC (hB.trans (h.mono hB.size)) hB.size h.size (Kd.R_nil _ _ _ _ _) (by simp) (by omega))
  have HV := Lib.hid hv
  obtain ⟨n, hn⟩ : ∃ n, n = x.f3.length := ⟨_, rfl⟩
  rw [← hn] at HY ⊢
  have HX := Lib.hid (blk_new w (.cells #[.int .i64 x.f0, .int .i64 x.f1, .string x.f2, .slice A n c] 87))
  have HB1 : Hid (Below w.heap.size w (w.alloc (.cells #[.int .i64 x.f0, .int .i64 x.f1, .string x.f2, .slice A n c] 87))) := Lib.hid ((Below.refl _ _).alloc (Nat.le_refl _) _)
  clear hC hB hn hv
  go_enter Try.func64, Try.ntmps64
  go_upto_region 1 with (fail)
  generalize w.alloc (.cells #[.int .i64 x.f0, .int .i64 x.f1, .string x.f2, .slice A n c] 87) = W1 at *
  have x0 : W1.cell? ⟨w.heap.size, 0, none⟩ = some (.int .i64 x.f0) := blk_at HX.out 0 rfl
  have x1 : W1.cell? ⟨w.heap.size, 1, none⟩ = some (.int .i64 x.f1) := blk_at HX.out 1 rfl
  have x2 : W1.cell? ⟨w.heap.size, 2, none⟩ = some (.string x.f2) := blk_at HX.out 2 rfl
  have x3 : W1.cell? ⟨w.heap.size, 3, none⟩ = some (.slice A n c) := blk_at HX.out 3 rfl
  go_wp2_with (go_at_call 59; refine (HY.out W1 HB1.out).mono ?_; rintro e w2 ⟨v', l', rfl, hr2, hb2, ha2, hl2⟩
               have HB2 : Hid (Below w.heap.size w w2) := Lib.hid (HB1.out.trans (below_grownR HB1.out.size hb2.out (fun k e => by simp [Value.ownBlock] at e)))
               have HV2 : Hid (l' = partsF x) := Lib.hid (hl2.out HV.out)
               have HR2 := hr2
               rw [show (chkV x 0 ([] : List S111).length).1 = 0 from HV.out]
               clear hr2 hb2 ha2 hl2 x0 x1 x2 x3)
  go_ret
  have hr := HR2.out
  rw [HV2.out] at hr
  obtain ⟨A', c', rfl, hc, hC⟩ := Kd.R_reads hr
  exact ⟨A', c', rfl, Lib.hid hC, Lib.hid hc, HB2⟩
end Go.Proofs.Ytpplnhefpcofoaa.PDeltaJoin
