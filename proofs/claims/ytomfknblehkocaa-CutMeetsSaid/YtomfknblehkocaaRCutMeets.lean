/- CutMeets returns true at every input, and its input reads as it did. Conditions: none beyond those that the given row states. -/
import Derived.Test.YtomfknblehkocaaRows
import Derived.Test.YtomfknblehkocaaWM
import Derived.Test.YtomfknblehkocaaOA
import Derived.WalkKit
import Derived.ProofKit
import Derived.OpenShut
import Derived.ShutString
import Derived.ChangeOld
import Derived.Below
import Derived.SizedLaws
namespace Go.Proofs.Ytomfknblehkocaa.cutMeets
open Go.ChangeShapes Go.WideShapes Go.ChangeAt Go.RowKit
set_option linter.unusedVariables false
theorem own : ownKnob Try.prog.godebug = none := by kernel_rfl
theorem laidOut : laidOutB Try.prog = true := by kernel_rfl
set_option maxRecDepth 100000 in
set_option maxHeartbeats 4000000 in
theorem lifted (os : Os) (started : os.Started) (H : Type) (enc : TypeId × Value → H) :
    ReturnsInHanded {} Try.checked os 11 .any (Rows.cutMeetsSpec.pre6 enc Try.prog Try.f11 Rows.cutMeetsRow.domain false) (Rows.cutMeetsSpec.post enc Try.prog Try.f11 false true false false) := by
  refine returnsInHanded_of_change_sized (C := Try.checked) own started (by kernel_rfl) Try.func11
    (ChangeSpec.witness6 (enc := enc) (C := Try.checked) false ⟨#[], #[.int .i64 0, .int .i64 0, .int .i64 0, .slice none 0 0, .slice none 0 0, .agg #[.string ⟨#[]⟩, .int .i64 0, .int .i64 0, .string ⟨#[]⟩, .slice none 0 0, .slice none 0 0]], []⟩ 8 (by kernel_rfl) (by kernel_rfl) (by kernel_rfl) (by kernel_rfl)) ?_
  intro W base args ds gs before hval0 hW hcnd hsz0 _
  have hsz : (DataW.weightsEach Try.prog (Try.f11.params.toList ++ Rows.cutMeetsSpec.plain.varTypes Try.prog) (ds ++ gs)).all (· ≤ reachBytes) = true := hsz0
  have hval : ∀ (j : Nat) t v, Try.f11.params[j]? = some t → args[j]? = some v → Value.okWide Try.prog W .any base t v := hval0
  have hW' := hW
  obtain ⟨p, q, hA0, hV, rfl, hfz, hnd⟩ := hW
  have hA : DataW.TrodAll enc Try.prog W 0 (fun _ => true) true Try.f11.params.toList args.toList ds p := hA0
  rw [Try.params11] at hA hval hsz
  obtain ⟨v0, vs0, d0, ds0, p0, q0, hargs, rfl, rfl, h0, r0⟩ := trodAll_cons hA
  obtain ⟨v1, vs1, d1, ds1, p1, q1, rfl, rfl, rfl, h1, r1⟩ := trodAll_cons r0
  obtain ⟨v2, vs2, d2, ds2, p2, q2, rfl, rfl, rfl, h2, r2⟩ := trodAll_cons r1
  obtain ⟨v3, vs3, d3, ds3, p3, q3, rfl, rfl, rfl, h3, r3⟩ := trodAll_cons r2
  obtain ⟨v4, vs4, d4, ds4, p4, q4, rfl, rfl, rfl, h4, r4⟩ := trodAll_cons r3
  obtain ⟨v5, vs5, d5, ds5, p5, q5, rfl, rfl, rfl, h5, r5⟩ := trodAll_cons r4
  obtain ⟨rfl, rfl, rfl⟩ := trodAll_nil r5
  obtain rfl : args = #[v0, v1, v2, v3, v4, v5] := by cases args; simp_all
  obtain ⟨rfl, rfl⟩ := trodVars_none hV
  obtain ⟨a0, rfl, rfl, rfl, w0⟩ := open_int Try.underlying3 (hval 0 3 v0 rfl rfl) h0
  obtain ⟨a1, rfl, rfl, rfl, w1⟩ := open_int Try.underlying3 (hval 1 3 v1 rfl rfl) h1
  obtain ⟨a2, rfl, rfl, rfl, w2⟩ := open_int Try.underlying3 (hval 2 3 v2 rfl rfl) h2
  obtain ⟨a3, len3, cap3, rfl⟩ := okWide_slice Try.underlying22 (hval 3 22 v3 rfl rfl)
  have k3 := h3
  have lt3 : ∀ x ∈ p3, x.block < W.heap.size := by obtain ⟨m, hm⟩ := k3; exact DataW.trod_lt m _ _ _ hm
  have s3 : C.Small 22 d3 := fun m hm => by
    have := List.all_eq_true.1 hsz m (DataW.weights_mem_each (j := 3) rfl rfl m hm)
    simpa using this
  obtain ⟨fuel3, hf3⟩ := h3
  obtain ⟨A3, c3, l3, e3, hc3, hC3, hl3⟩ := C.op_script hf3 s3
  simp [Value.cells] at e3
  obtain ⟨rfl, rfl, rfl⟩ := e3
  obtain ⟨a4, len4, cap4, rfl⟩ := okWide_slice Try.underlying43 (hval 4 43 v4 rfl rfl)
  have k4 := h4
  have lt4 : ∀ x ∈ p4, x.block < W.heap.size := by obtain ⟨m, hm⟩ := k4; exact DataW.trod_lt m _ _ _ hm
  have s4 : C.Small 43 d4 := fun m hm => by
    have := List.all_eq_true.1 hsz m (DataW.weights_mem_each (j := 4) rfl rfl m hm)
    simpa using this
  obtain ⟨fuel4, hf4⟩ := h4
  obtain ⟨A4, c4, l4, e4, hc4, hC4, hl4, hw4⟩ := C.op_ints hf4 s4
  simp [Value.cells] at e4
  obtain ⟨rfl, rfl, rfl⟩ := e4
  have k5 := h5
  have lt5 : ∀ x ∈ p5, x.block < W.heap.size := by obtain ⟨m, hm⟩ := k5; exact DataW.trod_lt m _ _ _ hm
  have s5 : C.Small 45 d5 := fun m hm => by
    have := List.all_eq_true.1 hsz m (DataW.weights_mem_each (j := 5) rfl rfl m hm)
    simpa using this
  obtain ⟨fuel5, hf5⟩ := h5
  obtain ⟨r5x, hr5, hlr5⟩ := C.op_45 _ _ _ hf5 s5
  obtain ⟨A54, c54, A55, c55, e5, hc54, hC54, hc55, hC55⟩ := C.k45_open hr5
  obtain ⟨cs5, rfl, _⟩ := okWide_struct Try.underlying45 (hval 5 45 v5 rfl rfl)
  obtain rfl : cs5 = #[.string r5x.f0, .int .i64 r5x.f1.f0, .int .i64 r5x.f1.f1, .string r5x.f1.f2, .slice A54 r5x.f1.f3.length c54, .slice A55 r5x.f2.length c55] := Array.ext' e5
  clear e5
  clear hA0 hval0 hsz0 hsz
  refine (C.meets_walk a0 a1 a2 l3 a3 cap3 l4 a4 cap4 r5x A54 c54 A55 c55 W hC3 hc3 hl3 hC4 hc4 hw4 hC54 hc54 hC55 hc55 hlr5).mono fun e W' ⟨he, bel⟩ => ?_
  subst he
  exact ⟨_, rfl, _, _, _, [], _, [], hW', trodAll_mk1 (shut_bool Try.underlying4 _), (trodAll_cons_mk (shut_int Try.underlying3 w0) (trodAll_cons_mk (shut_int Try.underlying3 w1) (trodAll_cons_mk (shut_int Try.underlying3 w2) (trodAll_cons_mk (Below.trod laidOut (by kernel_rfl) (of_decide_eq_true (by kernel_rfl)) k3 bel lt3) (trodAll_cons_mk (Below.trod laidOut (by kernel_rfl) (of_decide_eq_true (by kernel_rfl)) k4 bel lt4) (trodAll_cons_mk (Below.trod laidOut (by kernel_rfl) (of_decide_eq_true (by kernel_rfl)) k5 bel lt5) trodAll_mk0)))))), rfl, bel.frame _, fun h => by cases h⟩
theorem over : Rows.cutMeetsRow.holds Try.pinned (OpenSpec.ofChange Rows.cutMeetsSpec) :=
  OpenClaim.holds_of_wide 11 Try.f11 rfl rfl rfl rfl rfl rfl rfl ⟨rfl, rfl, rfl, rfl, rfl⟩ rfl rfl rfl rfl rfl (by kernel_rfl) Try.func11 (by kernel_rfl)
    (of_decide_eq_true (by kernel_rfl)) (by unfold Func.isWrapper; first | (rw [if_pos (by decide +kernel)]; kernel_rfl) | (rw [if_neg (by decide +kernel)]; exact ⟨rfl, rfl⟩))
    (fun os started H enc _ => lifted os started H enc)
end Go.Proofs.Ytomfknblehkocaa.cutMeets
namespace Go.Proofs.Ytomfknblehkocaa
/-- The row of CutMeets. -/
theorem cutMeets_holds : Rows.CutMeetsSaid := cutMeets.over
end Go.Proofs.Ytomfknblehkocaa
