/- number. -/
import Derived.Test.YtcbaiplamaopeaaPB
namespace Go.Proofs.Ytcbaiplamaopeaa.PPostShots
open Go.RowKit Go.Conc Go.Proofs.YtcbaiplamaopeaaW.PrintWords Go.Proofs.YtcbaiplamaopeaaW.PrintLast Go.Proofs.Ytcbaiplamaopeaa.PPost
set_option linter.unusedVariables false
set_option linter.unusedSimpArgs false

def numOf (o : S57) (last : Int) : Int := if o.f2 = true then o.f3 else wrap64 (last + o.f3)
theorem numOf_wf {o : S57} {last : Int} (h : wfI o.f3) : wfI (numOf o last) := by
  unfold numOf
  by_cases h2 : o.f2 = true
  · rw [if_pos h2]; exact h
  · rw [if_neg h2]; exact wrap64_wf _
theorem number21 (o : S57) (last : Int) (A6 : Option Addr) (c6 : Nat) (A7 : Option Addr) (c7 : Nat) (A8 : Option Addr) (c8 : Nat) (w : World) (hC6 : Kd.C k103 w A6 o.f5.f0.f1.length o.f5.f0.f1) (hl6 : o.f5.f0.f1.length ≤ c6) (hC7 : Kd.C (Kd.slice 83 k83) w A7 o.f5.f1.length o.f5.f1) (hl7 : o.f5.f1.length ≤ c7) (hC8 : Kd.C k83 w A8 o.f5.f2.length o.f5.f2) (hl8 : o.f5.f2.length ≤ c8) :
    Calls Try.prog 21 #[.agg #[.int .i64 o.f0, .bool o.f1, .bool o.f2, .int .i64 o.f3, .int .i64 o.f4, .int .i64 o.f5.f0.f0, .slice A6 o.f5.f0.f1.length c6, .slice A7 o.f5.f1.length c7, .slice A8 o.f5.f2.length c8, .bool o.f6], .int .i64 last] w fun e w' => e = .returned (.int .i64 (numOf o last)) ∧ Hid (Below w.heap.size w w') := by
  refine (eddylaw14_number.calls o.f0 o.f1 o.f2 o.f3 o.f4 o.f5.f0.f0 A6 c6 o.f5.f0.f1 A7 c7 o.f5.f1 A8 c8 o.f5.f2 o.f6 last (numOf o last) w hC6 hl6 hC7 hl7 hC8 hl8 ?_).mono (fun e w' he => ⟨he.1, Lib.hid he.2⟩)
  unfold eddylaw14_number.f numOf
  by_cases h2 : o.f2 = true
  · rw [if_pos h2, if_pos h2]
  · rw [if_neg h2, if_neg h2]
end Go.Proofs.Ytcbaiplamaopeaa.PPostShots
