/- Kinds of the reference, as print.sh wrote them for DeltaApplies. -/
import Derived.Test.YtpplnhefpcofoaaZXA
namespace Go.Proofs.Ytpplnhefpcofoaa.PDeltaJoin
open Go.RowKit Go.Proofs.YtpplnhefpcofoaaW.PrintWords Go.Proofs.YtpplnhefpcofoaaW.PrintLast
set_option linter.unusedVariables false
set_option linter.unusedSimpArgs false
theorem info9r : (Try.prog.info? 9).map (fun i => (i.zero, i.size, i.bytes)) = some (some (.string ⟨#[]⟩), 1, 16) := by kernel_rfl
theorem info63r : (Try.prog.info? 63).map (fun i => (i.zero, i.size, i.bytes)) = some (some (.agg #[(.string ⟨#[]⟩), (.slice none 0 0)]), 2, 40) := by kernel_rfl
theorem info111 : (Try.prog.info? 111).map (fun i => (i.zero, i.size, i.bytes)) = some (some (.agg #[(.int .i64 0), (.int .i64 0), (.string ⟨#[]⟩), (.int .i64 0)]), 4, 40) := by kernel_rfl
theorem bytesLess_ltr : ∀ (x y : List UInt8), Op.bytesLess x y = decide (x < y)
  | [], [] => by simp [Op.bytesLess]
  | _ :: _, [] => by simp [Op.bytesLess]
  | [], _ :: _ => by simp [Op.bytesLess]
  | a :: x, b :: y => by
    rw [Op.bytesLess, bytesLess_ltr x y]
    simp only [List.cons_lt_cons_iff]
    by_cases h1 : a < b <;> by_cases h2 : a = b <;> by_cases h3 : x < y <;> simp [h1, h2, h3]
theorem binOp_string_gtr2 (t : TypeId) (a b : ByteArray) : binOp .gtr t (.string a) (.string b) = pure (.bool (Op.bytesLess b.toList a.toList)) := by
  have e : (!(Op.bytesLess a.toList b.toList || a.toList == b.toList)) = Op.bytesLess b.toList a.toList := by
    rw [bytesLess_ltr, bytesLess_ltr]
    rcases Std.lt_trichotomy a.toList b.toList with h | h | h
    · have h2 : ¬ b.toList < a.toList := fun h2 => List.lt_irrefl _ (List.lt_trans h h2)
      simp [h, h2]
    · rw [h]
      have h2 : ¬ b.toList < b.toList := List.lt_irrefl _
      simp [h2]
    · have h2 : ¬ a.toList < b.toList := fun h2 => List.lt_irrefl _ (List.lt_trans h h2)
      have h3 : ¬ a.toList = b.toList := fun h3 => List.lt_irrefl b.toList (by rw [h3] at h; exact h)
      simp [h, h2, h3]
  rw [← e]
  simp [binOp, Op.stringOp]
/-! #### struct type 111 -/
structure S111 where
  f0 : Int
  f1 : Int
  f2 : ByteArray
  f3 : Int
def k111 : Kd S111 := Kd.iso (Kd.pair (Kd.int .i64) (Kd.pair (Kd.int .i64) (Kd.pair Kd.string (Kd.int .i64)))) (fun x : S111 => (x.f0, x.f1, x.f2, x.f3))
theorem k111_mkM (w : World) (base : Nat) (ok : Nat → Prop) (x : S111)  : k111.M w base ok x [.int .i64 x.f0, .int .i64 x.f1, .string x.f2, .int .i64 x.f3] := ⟨[.int .i64 x.f0], [.int .i64 x.f1, .string x.f2, .int .i64 x.f3], rfl, rfl, ⟨[.int .i64 x.f1], [.string x.f2, .int .i64 x.f3], rfl, rfl, ⟨[.string x.f2], [.int .i64 x.f3], rfl, rfl, rfl⟩⟩⟩
end Go.Proofs.Ytpplnhefpcofoaa.PDeltaJoin
