/- assoc, walked. -/
import Derived.Test.YtpplnhefpcofoaaZCT
import Derived.Test.YtpplnhefpcofoaaZCG
namespace Go.Proofs.Ytpplnhefpcofoaa.PDeltaJoin
open Go.RowKit Go.Proofs.YtpplnhefpcofoaaW.PrintWords Go.Proofs.YtpplnhefpcofoaaW.PrintLast
set_option linter.unusedVariables false
set_option linter.unusedSimpArgs false

def joinD (x y : S27) : S27 := ⟨(joinP x.f0 x.f1 x.f2 y.f0 y.f1 y.f2).1, (joinP x.f0 x.f1 x.f2 y.f0 y.f1 y.f2).2.1, (joinP x.f0 x.f1 x.f2 y.f0 y.f1 y.f2).2.2.1⟩
def joinE (x y : S27) : Int := (joinP x.f0 x.f1 x.f2 y.f0 y.f1 y.f2).2.2.2
/-- A delta and a number, answered: its lists may be read from here on. -/
def DD (z : S27) (m : Int) (w : World) (e : Ending) (w' : World) : Prop :=
  ∃ A c B k, e = .returned (.tuple #[.agg #[.int .i64 z.f0, .slice A z.f1.length c, .slice B z.f2.length k], .int .i64 m]) ∧ Hid (Kd.C k63 w' A z.f1.length z.f1) ∧ Hid (Kd.C Kd.string w' B z.f2.length z.f2) ∧ Hid (Below w.heap.size w w') ∧ Hid (z.f1.length ≤ c ∧ z.f2.length ≤ k)
theorem DAns.dd {r : Int × List S63 × List ByteArray × Int} {w w' : World} {e : Ending} (h : DAns r w e w') : DD ⟨r.1, r.2.1, r.2.2.1⟩ r.2.2.2 w e w' := by
  obtain ⟨vs, vg, rfl, h1, h2, h3⟩ := h
  obtain ⟨A, c, rfl, l1, C1⟩ := Kd.R_reads h1.out
  obtain ⟨B, k, rfl, l2, C2⟩ := Kd.R_reads h2.out
  exact ⟨A, c, B, k, rfl, Lib.hid C1, Lib.hid C2, h3, Lib.hid ⟨l1, l2⟩⟩
theorem joinD20 (x y : S27) (A B A2 B2 : Option Addr) (c k c2 k2 : Nat) (w : World) (hA : Kd.C k63 w A x.f1.length x.f1) (hB : Kd.C Kd.string w B x.f2.length x.f2) (hA2 : Kd.C k63 w A2 y.f1.length y.f1) (hB2 : Kd.C Kd.string w B2 y.f2.length y.f2) :
    Calls Try.prog 20 #[.agg #[.int .i64 x.f0, .slice A x.f1.length c, .slice B x.f2.length k], .agg #[.int .i64 y.f0, .slice A2 y.f1.length c2, .slice B2 y.f2.length k2]] w fun e w' => DD (joinD x y) (joinE x y) w e w' :=
  (join20 x.f0 x.f1 x.f2 y.f0 y.f1 y.f2 A B A2 B2 c k c2 k2 w hA hB hA2 hB2).mono (fun _ _ h => h.dd)
end Go.Proofs.Ytpplnhefpcofoaa.PDeltaJoin
