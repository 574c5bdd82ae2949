/- The reference's rank: as print.sh wrote it for DeltaDiffs, over the trimmed kinds. -/
import Derived.Test.YtpplnhefpcofoaaZXP
import Derived.Test.YtpplnhefpcofoaaZWRepsOne
namespace Go.Proofs.Ytpplnhefpcofoaa.PDeltaJoin
open Go.RowKit Go.Proofs.YtpplnhefpcofoaaW.PrintWords Go.Proofs.YtpplnhefpcofoaaW.PrintLast
set_option linter.unusedVariables false
set_option linter.unusedSimpArgs false

/-! ### eddyref2_rank: function 63 -/
mutual
def eddyref2_rank.l0 : Nat → List Int → Int → Int → Int → Int → ByteArray → Int → Option (List Int × Int)
  | 0, _, _, _, _, _, _, _ => none
  | k + 1, x7, x8, x9, x282000, x282001, x282002, x282003 => if x9 < (x282002.size : Int) then (if 0 ≤ x9 then (if x7.length < 140737488355328 then ((some (x7 ++ [bt x282002 x9] : List Int)).bind fun y291 => (if (bt x282002 x9) = 0 then (if y291.length < 140737488355328 then (eddyref2_rank.l0 k (y291 ++ [255]) x8 (wrap64 (x9 + 1)) x282000 x282001 x282002 x282003) else (none)) else (eddyref2_rank.l0 k y291 x8 (wrap64 (x9 + 1)) x282000 x282001 x282002 x282003))) else (none)) else (none)) else ((some (([0, 0] : List Int) : List Int)).bind fun y297 => (if x7.length + y297.length < 140737488355328 then (some ((x7 ++ y297), x8)) else (none)))
def eddyref2_rank.l1 : Nat → List (S111) → List Int → Int → Int → Int → Int → ByteArray → Int → Option (List Int × Int)
  | 0, _, _, _, _, _, _, _, _ => none
  | k + 1, x0, x7, x8, x10, x282000, x282001, x282002, x282003 => if x10 < x282003 then ((eddyref2_rank.f k x0 x8).bind fun bt303 => (if x7.length + bt303.1.length < 140737488355328 then (eddyref2_rank.l1 k x0 (x7 ++ bt303.1) bt303.2 (wrap64 (x10 + 1)) x282000 x282001 x282002 x282003) else (none))) else (if x7.length < 140737488355328 then (some ((x7 ++ [0]), x8)) else (none))
def eddyref2_rank.f : Nat → List (S111) → Int → Option (List Int × Int)
  | 0, _, _ => none
  | k + 1, l0, a1 => if 0 ≤ a1 then (if a1 < (l0.length : Int) then ((some (([(wrap64 (((rd_T111 l0 a1).f0) + 1)) % 256] : List Int) : List Int)).bind fun y282 => (if ((rd_T111 l0 a1).f0) = 1 then ((eddyref2_place.f k ((rd_T111 l0 a1).f1)).bind fun t285 => (if y282.length + t285.length < 140737488355328 then (some ((y282 ++ t285), wrap64 (a1 + 1))) else (none))) else (if ((rd_T111 l0 a1).f0) = 2 then (eddyref2_rank.l0 k y282 (wrap64 (a1 + 1)) 0 ((rd_T111 l0 a1).f0) ((rd_T111 l0 a1).f1) ((rd_T111 l0 a1).f2) ((rd_T111 l0 a1).f3)) else (if ((rd_T111 l0 a1).f0) = 3 then (eddyref2_rank.l1 k l0 y282 (wrap64 (a1 + 1)) 0 ((rd_T111 l0 a1).f0) ((rd_T111 l0 a1).f1) ((rd_T111 l0 a1).f2) ((rd_T111 l0 a1).f3)) else (some (y282, wrap64 (a1 + 1))))))) else (none)) else (none)
end
theorem eddyref2_rank.mono_l : ∀ k, (∀ y0 y1, LeO (eddyref2_rank.f k y0 y1) (eddyref2_rank.f (k + 1) y0 y1)) ∧ (∀ y0 y1 y2 y3 y4 y5 y6, LeO (eddyref2_rank.l0 k y0 y1 y2 y3 y4 y5 y6) (eddyref2_rank.l0 (k + 1) y0 y1 y2 y3 y4 y5 y6)) ∧ (∀ y0 y1 y2 y3 y4 y5 y6 y7, LeO (eddyref2_rank.l1 k y0 y1 y2 y3 y4 y5 y6 y7) (eddyref2_rank.l1 (k + 1) y0 y1 y2 y3 y4 y5 y6 y7))
  | 0 => ⟨fun _ _ r h => by simp [eddyref2_rank.f] at h, fun _ _ _ _ _ _ _ r h => by simp [eddyref2_rank.l0] at h, fun _ _ _ _ _ _ _ _ r h => by simp [eddyref2_rank.l1] at h⟩
  | k + 1 => by
    obtain ⟨ih0, ih1, ih2⟩ := eddyref2_rank.mono_l k
    refine ⟨?_, ?_, ?_⟩
    · intro y0 y1
      unfold eddyref2_rank.f
      repeat' first
      | (with_reducible exact ih0 _ _)
      | (with_reducible exact ih1 _ _ _ _ _ _ _)
      | (with_reducible exact ih2 _ _ _ _ _ _ _ _)
      | (with_reducible exact eddyref2_place.mono _ _)
      | (with_reducible exact LeO.refl _)
      | (with_reducible exact LeO.none _)
      | (with_reducible refine LeO.ite ?_ ?_)
      | (with_reducible refine LeO.bind ?_ (fun _ => ?_))
      | exact ih0 _ _
      | exact ih1 _ _ _ _ _ _ _
      | exact ih2 _ _ _ _ _ _ _ _
      | exact eddyref2_place.mono _ _
      | exact LeO.none _
      | refine LeO.ite ?_ ?_
      | refine LeO.bind ?_ (fun _ => ?_)
    · intro y0 y1 y2 y3 y4 y5 y6
      unfold eddyref2_rank.l0
      repeat' first
      | (with_reducible exact ih0 _ _)
      | (with_reducible exact ih1 _ _ _ _ _ _ _)
      | (with_reducible exact ih2 _ _ _ _ _ _ _ _)
      | (with_reducible exact eddyref2_place.mono _ _)
      | (with_reducible exact LeO.refl _)
      | (with_reducible exact LeO.none _)
      | (with_reducible refine LeO.ite ?_ ?_)
      | (with_reducible refine LeO.bind ?_ (fun _ => ?_))
      | exact ih0 _ _
      | exact ih1 _ _ _ _ _ _ _
      | exact ih2 _ _ _ _ _ _ _ _
      | exact eddyref2_place.mono _ _
      | exact LeO.none _
      | refine LeO.ite ?_ ?_
      | refine LeO.bind ?_ (fun _ => ?_)
    · intro y0 y1 y2 y3 y4 y5 y6 y7
      unfold eddyref2_rank.l1
      repeat' first
      | (with_reducible exact ih0 _ _)
      | (with_reducible exact ih1 _ _ _ _ _ _ _)
      | (with_reducible exact ih2 _ _ _ _ _ _ _ _)
      | (with_reducible exact eddyref2_place.mono _ _)
      | (with_reducible exact LeO.refl _)
      | (with_reducible exact LeO.none _)
      | (with_reducible refine LeO.ite ?_ ?_)
      | (with_reducible refine LeO.bind ?_ (fun _ => ?_))
      | exact ih0 _ _
      | exact ih1 _ _ _ _ _ _ _
      | exact ih2 _ _ _ _ _ _ _ _
      | exact eddyref2_place.mono _ _
      | exact LeO.none _
      | refine LeO.ite ?_ ?_
      | refine LeO.bind ?_ (fun _ => ?_)
theorem eddyref2_rank.mono : ∀ a0 a1 k, LeO (eddyref2_rank.f k a0 a1) (eddyref2_rank.f (k + 1) a0 a1) := by
  intro a0 a1 k
  obtain ⟨ih0, ih1, ih2⟩ := eddyref2_rank.mono_l k
  exact ih0 a0 a1
end Go.Proofs.Ytpplnhefpcofoaa.PDeltaJoin
