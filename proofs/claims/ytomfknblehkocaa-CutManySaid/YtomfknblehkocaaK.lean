/- The kinds of this seat: what the cells of the program's structs say. -/
import Derived.Test.YtomfknblehkocaaProg
import Derived.Test.YtomfknblehkocaaWWords
import Derived.Test.YtomfknblehkocaaWLast
import Derived.Test.YtomfknblehkocaaWTab
import Derived.Test.YtomfknblehkocaaWShare
import Derived.Test.YtomfknblehkocaaWKept
import Derived.WalkKit
import Derived.WalkSpells
import Derived.WalkLawsBesides
import Derived.KernelRfl
import Derived.Lib.Hide
import Derived.Deep.LoopGhost
import Derived.Deep.DeepCutAuto
import Derived.Deep.CutBlock
import Derived.Deep.QuietTactic
import Derived.BigQuiet
import Derived.Deep.RegionHeld3
import Derived.Deep.RegionLaw
namespace Go.Proofs.Ytomfknblehkocaa.C
open Go.RowKit Go.Proofs.YtomfknblehkocaaW.PrintWords Go.Proofs.YtomfknblehkocaaW.PrintLast
set_option linter.unusedVariables false
set_option linter.unusedSimpArgs false

theorem info3 : (Try.prog.info? 3).map (fun i => (i.zero, i.size, i.bytes)) = some (some (.int .i64 0), 1, 8) := by kernel_rfl
theorem info35 : (Try.prog.info? 35).map (fun i => (i.zero, i.size, i.bytes)) = some (some (.slice none 0 0), 1, 24) := by kernel_rfl
theorem info42 : (Try.prog.info? 42).map (fun i => (i.zero, i.size, i.bytes)) = some (some (.agg #[(.int .i64 0), (.int .i64 0), (.string ⟨#[]⟩), (.slice none 0 0)]), 4, 56) := by kernel_rfl
theorem info45 : (Try.prog.info? 45).map (fun i => (i.zero, i.size, i.bytes)) = some (some (.agg #[(.string ⟨#[]⟩), (.int .i64 0), (.int .i64 0), (.string ⟨#[]⟩), (.slice none 0 0), (.slice none 0 0)]), 6, 96) := by kernel_rfl
theorem info104 : (Try.prog.info? 104).map (fun i => (i.zero, i.size, i.bytes)) = some (some (.agg #[(.string ⟨#[]⟩), (.slice none 0 0)]), 2, 40) := by kernel_rfl
-- the values' own types
/-! #### struct type 42, nested in itself -/
structure S42 where
  f0 : Int
  f1 : Int
  f2 : ByteArray
  f3 : (List S42)
def z42 : S42 := ⟨(0 : Int), (0 : Int), (⟨#[]⟩ : ByteArray), ([] : List S42)⟩
def F42 (d : Kd S42) : Kd S42 := Kd.iso (Kd.pair (Kd.int .i64) (Kd.pair (Kd.int .i64) (Kd.pair Kd.string (Kd.slice 42 d)))) (fun x : S42 => (x.f0, x.f1, x.f2, x.f3))
theorem mono42 : Kd.Mono F42 := Kd.mono_iso _ (Kd.mono_pair (Kd.mono_const _) (Kd.mono_pair (Kd.mono_const _) (Kd.mono_pair (Kd.mono_const _) (Kd.mono_slice 42 Kd.mono_id))))
theorem sub42 : Kd.Sub F42 [42] := Kd.sub_iso _ (Kd.sub_pair (Kd.sub_const _ (by decide)) (Kd.sub_pair (Kd.sub_const _ (by decide)) (Kd.sub_pair (Kd.sub_const _ (by decide)) (Kd.sub_slice 42 (by decide) Kd.sub_id))))
theorem sz42 : ∀ n, (Kd.upto F42 4 [42] n).sz = 4 := Kd.upto_sz (fun _ => rfl)
def k42 : Kd S42 := Kd.fix F42 4 [42] sz42 (Kd.upto_E sub42)
theorem k42_open {w : World} {x : S42} {cs : List Value} (h : k42.K w x cs) : ∃ A3 c3, cs = [.int .i64 x.f0, .int .i64 x.f1, .string x.f2, .slice A3 x.f3.length c3] ∧ x.f3.length ≤ c3 ∧ k42.C w A3 x.f3.length x.f3 := by
  obtain ⟨n, h⟩ := h
  cases n with
  | zero => exact h.elim
  | succ n =>
    obtain ⟨_, _, rfl, rfl, ⟨_, _, rfl, rfl, ⟨_, _, rfl, rfl, ⟨A3, c3, rfl, l3, g3⟩⟩⟩⟩ := h
    exact ⟨A3, c3, rfl, l3, Kd.fix_C g3⟩
theorem k42_openM {w : World} {base : Nat} {ok : Nat → Prop} {x : S42} {cs : List Value} (h : k42.M w base ok x cs) : ∃ v3, cs = [.int .i64 x.f0, .int .i64 x.f1, .string x.f2, v3] ∧ k42.R 42 w base ok v3 x.f3 := by
  obtain ⟨n, h⟩ := h
  cases n with
  | zero => exact h.elim
  | succ n =>
    obtain ⟨_, _, rfl, rfl, ⟨_, _, rfl, rfl, ⟨_, _, rfl, rfl, ⟨v3, rfl, g3⟩⟩⟩⟩ := h
    exact ⟨v3, rfl, Kd.fix_R g3⟩
theorem k42_mk (w : World) (x : S42) {A3 : Option Addr} {c3 : Nat} (l3 : x.f3.length ≤ c3) (g3 : k42.C w A3 x.f3.length x.f3) : k42.K w x [.int .i64 x.f0, .int .i64 x.f1, .string x.f2, .slice A3 x.f3.length c3] := by
  obtain ⟨n3, q3⟩ := Kd.fix_C_back mono42 g3
  have r3 := Kd.upto_C_le mono42 sz42 (show n3 ≤ n3 by omega) q3
  exact ⟨n3 + 1, ⟨[.int .i64 x.f0], [.int .i64 x.f1, .string x.f2, .slice A3 x.f3.length c3], rfl, rfl, ⟨[.int .i64 x.f1], [.string x.f2, .slice A3 x.f3.length c3], rfl, rfl, ⟨[.string x.f2], [.slice A3 x.f3.length c3], rfl, rfl, ⟨A3, c3, rfl, l3, r3⟩⟩⟩⟩⟩
theorem k42_mkM (w : World) (base : Nat) (ok : Nat → Prop) (x : S42) {v3 : Value} (g3 : k42.R 42 w base ok v3 x.f3) : k42.M w base ok x [.int .i64 x.f0, .int .i64 x.f1, .string x.f2, v3] := by
  obtain ⟨n3, q3⟩ := Kd.fix_R_back mono42 g3
  have r3 := Kd.upto_R_le mono42 sz42 (show n3 ≤ n3 by omega) q3
  exact ⟨n3 + 1, ⟨[.int .i64 x.f0], [.int .i64 x.f1, .string x.f2, v3], rfl, rfl, ⟨[.int .i64 x.f1], [.string x.f2, v3], rfl, rfl, ⟨[.string x.f2], [v3], rfl, rfl, ⟨v3, rfl, r3⟩⟩⟩⟩⟩
def rd_T42 (xs : List S42) (i : Int) : S42 := xs.getD i.toNat z42
theorem at_T42 {w : World} {A : Option Addr} {n : Nat} {xs : List S42} (h : Kd.C k42 w A n xs) (i : Int) (h0 : 0 ≤ i) (h1 : i < n) : ∃ ad A3 c3, A = some ad ∧ w.cell? (ad.add (i.toNat * 4)) = some (.int .i64 (rd_T42 xs i).f0) ∧ w.cell? ⟨(ad.add (i.toNat * 4)).block, (ad.add (i.toNat * 4)).off + 1, none⟩ = some (.int .i64 (rd_T42 xs i).f1) ∧ w.cell? ⟨(ad.add (i.toNat * 4)).block, (ad.add (i.toNat * 4)).off + 2, none⟩ = some (.string (rd_T42 xs i).f2) ∧ w.cell? ⟨(ad.add (i.toNat * 4)).block, (ad.add (i.toNat * 4)).off + 3, none⟩ = some (.slice A3 (rd_T42 xs i).f3.length c3) ∧ (rd_T42 xs i).f3.length ≤ c3 ∧ k42.C w A3 (rd_T42 xs i).f3.length (rd_T42 xs i).f3 := by
  obtain ⟨ad, c, e, _, hK, hc0⟩ := Kd.C_get h z42 i h0 h1
  have hc : ∀ j u, c[j]? = some u → w.cell? (ad.add (i.toNat * 4 + j)) = some u := hc0
  obtain ⟨A3, c3, rfl, l3, g3⟩ := k42_open hK
  exact ⟨ad, A3, c3, e, hc 0 _ rfl, by rw [← add_field _ _ 1 (by omega)]; exact hc 1 _ rfl, by rw [← add_field _ _ 2 (by omega)]; exact hc 2 _ rfl, by rw [← add_field _ _ 3 (by omega)]; exact hc 3 _ rfl, l3, g3⟩

def rd_L3 (xs : List (List S42)) (i : Int) : (List S42) := xs.getD i.toNat ([] : List S42)
theorem at_L3 {w : World} {A : Option Addr} {n : Nat} {xs : List (List S42)} (h : Kd.C (Kd.slice 42 k42) w A n xs) (i : Int) (h0 : 0 ≤ i) (h1 : i < n) : ∃ ad A0 c0, A = some ad ∧ w.cell? (ad.add i.toNat) = some (.slice A0 (rd_L3 xs i).length c0) ∧ (rd_L3 xs i).length ≤ c0 ∧ k42.C w A0 (rd_L3 xs i).length (rd_L3 xs i) := by
  obtain ⟨ad, c, e, _, hK, hc0⟩ := Kd.C_get h ([] : List S42) i h0 h1
  have hc : ∀ j u, c[j]? = some u → w.cell? (ad.add (i.toNat * 1 + j)) = some u := hc0
  obtain ⟨A0, c0, rfl, l0, g0⟩ := hK
  exact ⟨ad, A0, c0, e, by have hq := hc 0 _ rfl; rwa [Nat.mul_one, Nat.add_zero] at hq, l0, g0⟩

/-! #### struct type 104 -/
structure S104 where
  f0 : ByteArray
  f1 : (List S42)
def z104 : S104 := ⟨(⟨#[]⟩ : ByteArray), ([] : List S42)⟩
def k104 : Kd S104 := Kd.iso (Kd.pair Kd.string (Kd.slice 42 k42)) (fun x : S104 => (x.f0, x.f1))
theorem k104_open {w : World} {x : S104} {cs : List Value} (h : k104.K w x cs) : ∃ A1 c1, cs = [.string x.f0, .slice A1 x.f1.length c1] ∧ x.f1.length ≤ c1 ∧ k42.C w A1 x.f1.length x.f1 := by
  obtain ⟨_, _, rfl, rfl, ⟨A1, c1, rfl, l1, g1⟩⟩ := h
  exact ⟨A1, c1, rfl, l1, g1⟩
theorem k104_openM {w : World} {base : Nat} {ok : Nat → Prop} {x : S104} {cs : List Value} (h : k104.M w base ok x cs) : ∃ v1, cs = [.string x.f0, v1] ∧ k42.R 42 w base ok v1 x.f1 := by
  obtain ⟨_, _, rfl, rfl, ⟨v1, rfl, g1⟩⟩ := h
  exact ⟨v1, rfl, g1⟩
theorem k104_mk (w : World) (x : S104) {A1 : Option Addr} {c1 : Nat} (l1 : x.f1.length ≤ c1) (g1 : k42.C w A1 x.f1.length x.f1) : k104.K w x [.string x.f0, .slice A1 x.f1.length c1] := ⟨[.string x.f0], [.slice A1 x.f1.length c1], rfl, rfl, ⟨A1, c1, rfl, l1, g1⟩⟩
theorem k104_mkM (w : World) (base : Nat) (ok : Nat → Prop) (x : S104) {v1 : Value} (g1 : k42.R 42 w base ok v1 x.f1) : k104.M w base ok x [.string x.f0, v1] := ⟨[.string x.f0], [v1], rfl, rfl, ⟨v1, rfl, g1⟩⟩
def rd_T104 (xs : List S104) (i : Int) : S104 := xs.getD i.toNat z104
theorem at_T104 {w : World} {A : Option Addr} {n : Nat} {xs : List S104} (h : Kd.C k104 w A n xs) (i : Int) (h0 : 0 ≤ i) (h1 : i < n) : ∃ ad A1 c1, A = some ad ∧ w.cell? (ad.add (i.toNat * 2)) = some (.string (rd_T104 xs i).f0) ∧ w.cell? ⟨(ad.add (i.toNat * 2)).block, (ad.add (i.toNat * 2)).off + 1, none⟩ = some (.slice A1 (rd_T104 xs i).f1.length c1) ∧ (rd_T104 xs i).f1.length ≤ c1 ∧ k42.C w A1 (rd_T104 xs i).f1.length (rd_T104 xs i).f1 := by
  obtain ⟨ad, c, e, _, hK, hc0⟩ := Kd.C_get h z104 i h0 h1
  have hc : ∀ j u, c[j]? = some u → w.cell? (ad.add (i.toNat * 2 + j)) = some u := hc0
  obtain ⟨A1, c1, rfl, l1, g1⟩ := k104_open hK
  exact ⟨ad, A1, c1, e, hc 0 _ rfl, by rw [← add_field _ _ 1 (by omega)]; exact hc 1 _ rfl, l1, g1⟩

def rd_L5 (xs : List (List Int)) (i : Int) : (List Int) := xs.getD i.toNat ([] : List Int)
theorem at_L5 {w : World} {A : Option Addr} {n : Nat} {xs : List (List Int)} (h : Kd.C (Kd.slice 3 (Kd.int .i64)) w A n xs) (i : Int) (h0 : 0 ≤ i) (h1 : i < n) : ∃ ad A0 c0, A = some ad ∧ w.cell? (ad.add i.toNat) = some (.slice A0 (rd_L5 xs i).length c0) ∧ (rd_L5 xs i).length ≤ c0 ∧ (Kd.int .i64).C w A0 (rd_L5 xs i).length (rd_L5 xs i) := by
  obtain ⟨ad, c, e, _, hK, hc0⟩ := Kd.C_get h ([] : List Int) i h0 h1
  have hc : ∀ j u, c[j]? = some u → w.cell? (ad.add (i.toNat * 1 + j)) = some u := hc0
  obtain ⟨A0, c0, rfl, l0, g0⟩ := hK
  exact ⟨ad, A0, c0, e, by have hq := hc 0 _ rfl; rwa [Nat.mul_one, Nat.add_zero] at hq, l0, g0⟩

/-! #### struct type 45 -/
structure S45 where
  f0 : ByteArray
  f1 : S42
  f2 : (List Int)
def z45 : S45 := ⟨(⟨#[]⟩ : ByteArray), z42, ([] : List Int)⟩
def k45 : Kd S45 := Kd.iso (Kd.pair Kd.string (Kd.pair k42 (Kd.slice 3 (Kd.int .i64)))) (fun x : S45 => (x.f0, x.f1, x.f2))
theorem k45_open {w : World} {x : S45} {cs : List Value} (h : k45.K w x cs) : ∃ A4 c4 A5 c5, cs = [.string x.f0, .int .i64 x.f1.f0, .int .i64 x.f1.f1, .string x.f1.f2, .slice A4 x.f1.f3.length c4, .slice A5 x.f2.length c5] ∧ x.f1.f3.length ≤ c4 ∧ k42.C w A4 x.f1.f3.length x.f1.f3 ∧ x.f2.length ≤ c5 ∧ (Kd.int .i64).C w A5 x.f2.length x.f2 := by
  obtain ⟨_, _, rfl, rfl, ⟨_, _, rfl, s1, ⟨A5, c5, rfl, l5, g5⟩⟩⟩ := h
  obtain ⟨A4, c4, rfl, l4, g4⟩ := k42_open s1
  exact ⟨A4, c4, A5, c5, rfl, l4, g4, l5, g5⟩
theorem k45_openM {w : World} {base : Nat} {ok : Nat → Prop} {x : S45} {cs : List Value} (h : k45.M w base ok x cs) : ∃ v4 v5, cs = [.string x.f0, .int .i64 x.f1.f0, .int .i64 x.f1.f1, .string x.f1.f2, v4, v5] ∧ k42.R 42 w base ok v4 x.f1.f3 ∧ (Kd.int .i64).R 3 w base ok v5 x.f2 := by
  obtain ⟨_, _, rfl, rfl, ⟨_, _, rfl, s1, ⟨v5, rfl, g5⟩⟩⟩ := h
  obtain ⟨v4, rfl, g4⟩ := k42_openM s1
  exact ⟨v4, v5, rfl, g4, g5⟩
theorem k45_mk (w : World) (x : S45) {A4 : Option Addr} {c4 : Nat} (l4 : x.f1.f3.length ≤ c4) (g4 : k42.C w A4 x.f1.f3.length x.f1.f3) {A5 : Option Addr} {c5 : Nat} (l5 : x.f2.length ≤ c5) (g5 : (Kd.int .i64).C w A5 x.f2.length x.f2) : k45.K w x [.string x.f0, .int .i64 x.f1.f0, .int .i64 x.f1.f1, .string x.f1.f2, .slice A4 x.f1.f3.length c4, .slice A5 x.f2.length c5] := ⟨[.string x.f0], [.int .i64 x.f1.f0, .int .i64 x.f1.f1, .string x.f1.f2, .slice A4 x.f1.f3.length c4, .slice A5 x.f2.length c5], rfl, rfl, ⟨[.int .i64 x.f1.f0, .int .i64 x.f1.f1, .string x.f1.f2, .slice A4 x.f1.f3.length c4], [.slice A5 x.f2.length c5], rfl, (k42_mk w x.f1 l4 g4), ⟨A5, c5, rfl, l5, g5⟩⟩⟩
theorem k45_mkM (w : World) (base : Nat) (ok : Nat → Prop) (x : S45) {v4 : Value} (g4 : k42.R 42 w base ok v4 x.f1.f3) {v5 : Value} (g5 : (Kd.int .i64).R 3 w base ok v5 x.f2) : k45.M w base ok x [.string x.f0, .int .i64 x.f1.f0, .int .i64 x.f1.f1, .string x.f1.f2, v4, v5] := ⟨[.string x.f0], [.int .i64 x.f1.f0, .int .i64 x.f1.f1, .string x.f1.f2, v4, v5], rfl, rfl, ⟨[.int .i64 x.f1.f0, .int .i64 x.f1.f1, .string x.f1.f2, v4], [v5], rfl, (k42_mkM w base ok x.f1 g4), ⟨v5, rfl, g5⟩⟩⟩
def rd_T45 (xs : List S45) (i : Int) : S45 := xs.getD i.toNat z45
theorem at_T45 {w : World} {A : Option Addr} {n : Nat} {xs : List S45} (h : Kd.C k45 w A n xs) (i : Int) (h0 : 0 ≤ i) (h1 : i < n) : ∃ ad A4 c4 A5 c5, A = some ad ∧ w.cell? (ad.add (i.toNat * 6)) = some (.string (rd_T45 xs i).f0) ∧ w.cell? ⟨(ad.add (i.toNat * 6)).block, (ad.add (i.toNat * 6)).off + 1, none⟩ = some (.int .i64 (rd_T45 xs i).f1.f0) ∧ w.cell? ⟨(ad.add (i.toNat * 6)).block, (ad.add (i.toNat * 6)).off + 2, none⟩ = some (.int .i64 (rd_T45 xs i).f1.f1) ∧ w.cell? ⟨(ad.add (i.toNat * 6)).block, (ad.add (i.toNat * 6)).off + 3, none⟩ = some (.string (rd_T45 xs i).f1.f2) ∧ w.cell? ⟨(ad.add (i.toNat * 6)).block, (ad.add (i.toNat * 6)).off + 4, none⟩ = some (.slice A4 (rd_T45 xs i).f1.f3.length c4) ∧ w.cell? ⟨(ad.add (i.toNat * 6)).block, (ad.add (i.toNat * 6)).off + 5, none⟩ = some (.slice A5 (rd_T45 xs i).f2.length c5) ∧ (rd_T45 xs i).f1.f3.length ≤ c4 ∧ k42.C w A4 (rd_T45 xs i).f1.f3.length (rd_T45 xs i).f1.f3 ∧ (rd_T45 xs i).f2.length ≤ c5 ∧ (Kd.int .i64).C w A5 (rd_T45 xs i).f2.length (rd_T45 xs i).f2 := by
  obtain ⟨ad, c, e, _, hK, hc0⟩ := Kd.C_get h z45 i h0 h1
  have hc : ∀ j u, c[j]? = some u → w.cell? (ad.add (i.toNat * 6 + j)) = some u := hc0
  obtain ⟨A4, c4, A5, c5, rfl, l4, g4, l5, g5⟩ := k45_open hK
  exact ⟨ad, A4, c4, A5, c5, e, hc 0 _ rfl, by rw [← add_field _ _ 1 (by omega)]; exact hc 1 _ rfl, by rw [← add_field _ _ 2 (by omega)]; exact hc 2 _ rfl, by rw [← add_field _ _ 3 (by omega)]; exact hc 3 _ rfl, by rw [← add_field _ _ 4 (by omega)]; exact hc 4 _ rfl, by rw [← add_field _ _ 5 (by omega)]; exact hc 5 _ rfl, l4, g4, l5, g5⟩

def rd_L7 (xs : List (List S45)) (i : Int) : (List S45) := xs.getD i.toNat ([] : List S45)
theorem at_L7 {w : World} {A : Option Addr} {n : Nat} {xs : List (List S45)} (h : Kd.C (Kd.slice 45 k45) w A n xs) (i : Int) (h0 : 0 ≤ i) (h1 : i < n) : ∃ ad A0 c0, A = some ad ∧ w.cell? (ad.add i.toNat) = some (.slice A0 (rd_L7 xs i).length c0) ∧ (rd_L7 xs i).length ≤ c0 ∧ k45.C w A0 (rd_L7 xs i).length (rd_L7 xs i) := by
  obtain ⟨ad, c, e, _, hK, hc0⟩ := Kd.C_get h ([] : List S45) i h0 h1
  have hc : ∀ j u, c[j]? = some u → w.cell? (ad.add (i.toNat * 1 + j)) = some u := hc0
  obtain ⟨A0, c0, rfl, l0, g0⟩ := hK
  exact ⟨ad, A0, c0, e, by have hq := hc 0 _ rfl; rwa [Nat.mul_one, Nat.add_zero] at hq, l0, g0⟩

def rd_L8 (xs : List (List S104)) (i : Int) : (List S104) := xs.getD i.toNat ([] : List S104)
theorem at_L8 {w : World} {A : Option Addr} {n : Nat} {xs : List (List S104)} (h : Kd.C (Kd.slice 104 k104) w A n xs) (i : Int) (h0 : 0 ≤ i) (h1 : i < n) : ∃ ad A0 c0, A = some ad ∧ w.cell? (ad.add i.toNat) = some (.slice A0 (rd_L8 xs i).length c0) ∧ (rd_L8 xs i).length ≤ c0 ∧ k104.C w A0 (rd_L8 xs i).length (rd_L8 xs i) := by
  obtain ⟨ad, c, e, _, hK, hc0⟩ := Kd.C_get h ([] : List S104) i h0 h1
  have hc : ∀ j u, c[j]? = some u → w.cell? (ad.add (i.toNat * 1 + j)) = some u := hc0
  obtain ⟨A0, c0, rfl, l0, g0⟩ := hK
  exact ⟨ad, A0, c0, e, by have hq := hc 0 _ rfl; rwa [Nat.mul_one, Nat.add_zero] at hq, l0, g0⟩

/-! #### struct type 34 -/
structure S34 where
  f0 : Int
  f1 : (List S104)
def z34 : S34 := ⟨(0 : Int), ([] : List S104)⟩
def k34 : Kd S34 := Kd.iso (Kd.pair (Kd.int .i64) (Kd.slice 104 k104)) (fun x : S34 => (x.f0, x.f1))
theorem k34_open {w : World} {x : S34} {cs : List Value} (h : k34.K w x cs) : ∃ A1 c1, cs = [.int .i64 x.f0, .slice A1 x.f1.length c1] ∧ x.f1.length ≤ c1 ∧ k104.C w A1 x.f1.length x.f1 := by
  obtain ⟨_, _, rfl, rfl, ⟨A1, c1, rfl, l1, g1⟩⟩ := h
  exact ⟨A1, c1, rfl, l1, g1⟩
theorem k34_openM {w : World} {base : Nat} {ok : Nat → Prop} {x : S34} {cs : List Value} (h : k34.M w base ok x cs) : ∃ v1, cs = [.int .i64 x.f0, v1] ∧ k104.R 104 w base ok v1 x.f1 := by
  obtain ⟨_, _, rfl, rfl, ⟨v1, rfl, g1⟩⟩ := h
  exact ⟨v1, rfl, g1⟩
theorem k34_mk (w : World) (x : S34) {A1 : Option Addr} {c1 : Nat} (l1 : x.f1.length ≤ c1) (g1 : k104.C w A1 x.f1.length x.f1) : k34.K w x [.int .i64 x.f0, .slice A1 x.f1.length c1] := ⟨[.int .i64 x.f0], [.slice A1 x.f1.length c1], rfl, rfl, ⟨A1, c1, rfl, l1, g1⟩⟩
theorem k34_mkM (w : World) (base : Nat) (ok : Nat → Prop) (x : S34) {v1 : Value} (g1 : k104.R 104 w base ok v1 x.f1) : k34.M w base ok x [.int .i64 x.f0, v1] := ⟨[.int .i64 x.f0], [v1], rfl, rfl, ⟨v1, rfl, g1⟩⟩
def rd_T34 (xs : List S34) (i : Int) : S34 := xs.getD i.toNat z34
theorem at_T34 {w : World} {A : Option Addr} {n : Nat} {xs : List S34} (h : Kd.C k34 w A n xs) (i : Int) (h0 : 0 ≤ i) (h1 : i < n) : ∃ ad A1 c1, A = some ad ∧ w.cell? (ad.add (i.toNat * 2)) = some (.int .i64 (rd_T34 xs i).f0) ∧ w.cell? ⟨(ad.add (i.toNat * 2)).block, (ad.add (i.toNat * 2)).off + 1, none⟩ = some (.slice A1 (rd_T34 xs i).f1.length c1) ∧ (rd_T34 xs i).f1.length ≤ c1 ∧ k104.C w A1 (rd_T34 xs i).f1.length (rd_T34 xs i).f1 := by
  obtain ⟨ad, c, e, _, hK, hc0⟩ := Kd.C_get h z34 i h0 h1
  have hc : ∀ j u, c[j]? = some u → w.cell? (ad.add (i.toNat * 2 + j)) = some u := hc0
  obtain ⟨A1, c1, rfl, l1, g1⟩ := k34_open hK
  exact ⟨ad, A1, c1, e, hc 0 _ rfl, by rw [← add_field _ _ 1 (by omega)]; exact hc 1 _ rfl, l1, g1⟩

/-! #### struct type 47 -/
structure S47 where
  f0 : Int
  f1 : Int
  f2 : Int
  f3 : Int
  f4 : S45
  f5 : (List S45)
  f6 : (List S45)
  f7 : S34
def z47 : S47 := ⟨(0 : Int), (0 : Int), (0 : Int), (0 : Int), z45, ([] : List S45), ([] : List S45), z34⟩
def k47 : Kd S47 := Kd.iso (Kd.pair (Kd.int .i64) (Kd.pair (Kd.int .i64) (Kd.pair (Kd.int .i64) (Kd.pair (Kd.int .i64) (Kd.pair k45 (Kd.pair (Kd.slice 45 k45) (Kd.pair (Kd.slice 45 k45) k34))))))) (fun x : S47 => (x.f0, x.f1, x.f2, x.f3, x.f4, x.f5, x.f6, x.f7))
theorem k47_open {w : World} {x : S47} {cs : List Value} (h : k47.K w x cs) : ∃ A8 c8 A9 c9 A10 c10 A11 c11 A13 c13, cs = [.int .i64 x.f0, .int .i64 x.f1, .int .i64 x.f2, .int .i64 x.f3, .string x.f4.f0, .int .i64 x.f4.f1.f0, .int .i64 x.f4.f1.f1, .string x.f4.f1.f2, .slice A8 x.f4.f1.f3.length c8, .slice A9 x.f4.f2.length c9, .slice A10 x.f5.length c10, .slice A11 x.f6.length c11, .int .i64 x.f7.f0, .slice A13 x.f7.f1.length c13] ∧ x.f4.f1.f3.length ≤ c8 ∧ k42.C w A8 x.f4.f1.f3.length x.f4.f1.f3 ∧ x.f4.f2.length ≤ c9 ∧ (Kd.int .i64).C w A9 x.f4.f2.length x.f4.f2 ∧ x.f5.length ≤ c10 ∧ k45.C w A10 x.f5.length x.f5 ∧ x.f6.length ≤ c11 ∧ k45.C w A11 x.f6.length x.f6 ∧ x.f7.f1.length ≤ c13 ∧ k104.C w A13 x.f7.f1.length x.f7.f1 := by
  obtain ⟨_, _, rfl, rfl, ⟨_, _, rfl, rfl, ⟨_, _, rfl, rfl, ⟨_, _, rfl, rfl, ⟨_, _, rfl, s4, ⟨_, _, rfl, ⟨A10, c10, rfl, l10, g10⟩, ⟨_, _, rfl, ⟨A11, c11, rfl, l11, g11⟩, s12⟩⟩⟩⟩⟩⟩⟩ := h
  obtain ⟨A8, c8, A9, c9, rfl, l8, g8, l9, g9⟩ := k45_open s4
  obtain ⟨A13, c13, rfl, l13, g13⟩ := k34_open s12
  exact ⟨A8, c8, A9, c9, A10, c10, A11, c11, A13, c13, rfl, l8, g8, l9, g9, l10, g10, l11, g11, l13, g13⟩
theorem k47_openM {w : World} {base : Nat} {ok : Nat → Prop} {x : S47} {cs : List Value} (h : k47.M w base ok x cs) : ∃ v8 v9 v10 v11 v13, cs = [.int .i64 x.f0, .int .i64 x.f1, .int .i64 x.f2, .int .i64 x.f3, .string x.f4.f0, .int .i64 x.f4.f1.f0, .int .i64 x.f4.f1.f1, .string x.f4.f1.f2, v8, v9, v10, v11, .int .i64 x.f7.f0, v13] ∧ k42.R 42 w base ok v8 x.f4.f1.f3 ∧ (Kd.int .i64).R 3 w base ok v9 x.f4.f2 ∧ k45.R 45 w base ok v10 x.f5 ∧ k45.R 45 w base ok v11 x.f6 ∧ k104.R 104 w base ok v13 x.f7.f1 := by
  obtain ⟨_, _, rfl, rfl, ⟨_, _, rfl, rfl, ⟨_, _, rfl, rfl, ⟨_, _, rfl, rfl, ⟨_, _, rfl, s4, ⟨_, _, rfl, ⟨v10, rfl, g10⟩, ⟨_, _, rfl, ⟨v11, rfl, g11⟩, s12⟩⟩⟩⟩⟩⟩⟩ := h
  obtain ⟨v8, v9, rfl, g8, g9⟩ := k45_openM s4
  obtain ⟨v13, rfl, g13⟩ := k34_openM s12
  exact ⟨v8, v9, v10, v11, v13, rfl, g8, g9, g10, g11, g13⟩
theorem k47_mk (w : World) (x : S47) {A8 : Option Addr} {c8 : Nat} (l8 : x.f4.f1.f3.length ≤ c8) (g8 : k42.C w A8 x.f4.f1.f3.length x.f4.f1.f3) {A9 : Option Addr} {c9 : Nat} (l9 : x.f4.f2.length ≤ c9) (g9 : (Kd.int .i64).C w A9 x.f4.f2.length x.f4.f2) {A10 : Option Addr} {c10 : Nat} (l10 : x.f5.length ≤ c10) (g10 : k45.C w A10 x.f5.length x.f5) {A11 : Option Addr} {c11 : Nat} (l11 : x.f6.length ≤ c11) (g11 : k45.C w A11 x.f6.length x.f6) {A13 : Option Addr} {c13 : Nat} (l13 : x.f7.f1.length ≤ c13) (g13 : k104.C w A13 x.f7.f1.length x.f7.f1) : k47.K w x [.int .i64 x.f0, .int .i64 x.f1, .int .i64 x.f2, .int .i64 x.f3, .string x.f4.f0, .int .i64 x.f4.f1.f0, .int .i64 x.f4.f1.f1, .string x.f4.f1.f2, .slice A8 x.f4.f1.f3.length c8, .slice A9 x.f4.f2.length c9, .slice A10 x.f5.length c10, .slice A11 x.f6.length c11, .int .i64 x.f7.f0, .slice A13 x.f7.f1.length c13] := ⟨[.int .i64 x.f0], [.int .i64 x.f1, .int .i64 x.f2, .int .i64 x.f3, .string x.f4.f0, .int .i64 x.f4.f1.f0, .int .i64 x.f4.f1.f1, .string x.f4.f1.f2, .slice A8 x.f4.f1.f3.length c8, .slice A9 x.f4.f2.length c9, .slice A10 x.f5.length c10, .slice A11 x.f6.length c11, .int .i64 x.f7.f0, .slice A13 x.f7.f1.length c13], rfl, rfl, ⟨[.int .i64 x.f1], [.int .i64 x.f2, .int .i64 x.f3, .string x.f4.f0, .int .i64 x.f4.f1.f0, .int .i64 x.f4.f1.f1, .string x.f4.f1.f2, .slice A8 x.f4.f1.f3.length c8, .slice A9 x.f4.f2.length c9, .slice A10 x.f5.length c10, .slice A11 x.f6.length c11, .int .i64 x.f7.f0, .slice A13 x.f7.f1.length c13], rfl, rfl, ⟨[.int .i64 x.f2], [.int .i64 x.f3, .string x.f4.f0, .int .i64 x.f4.f1.f0, .int .i64 x.f4.f1.f1, .string x.f4.f1.f2, .slice A8 x.f4.f1.f3.length c8, .slice A9 x.f4.f2.length c9, .slice A10 x.f5.length c10, .slice A11 x.f6.length c11, .int .i64 x.f7.f0, .slice A13 x.f7.f1.length c13], rfl, rfl, ⟨[.int .i64 x.f3], [.string x.f4.f0, .int .i64 x.f4.f1.f0, .int .i64 x.f4.f1.f1, .string x.f4.f1.f2, .slice A8 x.f4.f1.f3.length c8, .slice A9 x.f4.f2.length c9, .slice A10 x.f5.length c10, .slice A11 x.f6.length c11, .int .i64 x.f7.f0, .slice A13 x.f7.f1.length c13], rfl, rfl, ⟨[.string x.f4.f0, .int .i64 x.f4.f1.f0, .int .i64 x.f4.f1.f1, .string x.f4.f1.f2, .slice A8 x.f4.f1.f3.length c8, .slice A9 x.f4.f2.length c9], [.slice A10 x.f5.length c10, .slice A11 x.f6.length c11, .int .i64 x.f7.f0, .slice A13 x.f7.f1.length c13], rfl, (k45_mk w x.f4 l8 g8 l9 g9), ⟨[.slice A10 x.f5.length c10], [.slice A11 x.f6.length c11, .int .i64 x.f7.f0, .slice A13 x.f7.f1.length c13], rfl, ⟨A10, c10, rfl, l10, g10⟩, ⟨[.slice A11 x.f6.length c11], [.int .i64 x.f7.f0, .slice A13 x.f7.f1.length c13], rfl, ⟨A11, c11, rfl, l11, g11⟩, (k34_mk w x.f7 l13 g13)⟩⟩⟩⟩⟩⟩⟩
theorem k47_mkM (w : World) (base : Nat) (ok : Nat → Prop) (x : S47) {v8 : Value} (g8 : k42.R 42 w base ok v8 x.f4.f1.f3) {v9 : Value} (g9 : (Kd.int .i64).R 3 w base ok v9 x.f4.f2) {v10 : Value} (g10 : k45.R 45 w base ok v10 x.f5) {v11 : Value} (g11 : k45.R 45 w base ok v11 x.f6) {v13 : Value} (g13 : k104.R 104 w base ok v13 x.f7.f1) : k47.M w base ok x [.int .i64 x.f0, .int .i64 x.f1, .int .i64 x.f2, .int .i64 x.f3, .string x.f4.f0, .int .i64 x.f4.f1.f0, .int .i64 x.f4.f1.f1, .string x.f4.f1.f2, v8, v9, v10, v11, .int .i64 x.f7.f0, v13] := ⟨[.int .i64 x.f0], [.int .i64 x.f1, .int .i64 x.f2, .int .i64 x.f3, .string x.f4.f0, .int .i64 x.f4.f1.f0, .int .i64 x.f4.f1.f1, .string x.f4.f1.f2, v8, v9, v10, v11, .int .i64 x.f7.f0, v13], rfl, rfl, ⟨[.int .i64 x.f1], [.int .i64 x.f2, .int .i64 x.f3, .string x.f4.f0, .int .i64 x.f4.f1.f0, .int .i64 x.f4.f1.f1, .string x.f4.f1.f2, v8, v9, v10, v11, .int .i64 x.f7.f0, v13], rfl, rfl, ⟨[.int .i64 x.f2], [.int .i64 x.f3, .string x.f4.f0, .int .i64 x.f4.f1.f0, .int .i64 x.f4.f1.f1, .string x.f4.f1.f2, v8, v9, v10, v11, .int .i64 x.f7.f0, v13], rfl, rfl, ⟨[.int .i64 x.f3], [.string x.f4.f0, .int .i64 x.f4.f1.f0, .int .i64 x.f4.f1.f1, .string x.f4.f1.f2, v8, v9, v10, v11, .int .i64 x.f7.f0, v13], rfl, rfl, ⟨[.string x.f4.f0, .int .i64 x.f4.f1.f0, .int .i64 x.f4.f1.f1, .string x.f4.f1.f2, v8, v9], [v10, v11, .int .i64 x.f7.f0, v13], rfl, (k45_mkM w base ok x.f4 g8 g9), ⟨[v10], [v11, .int .i64 x.f7.f0, v13], rfl, ⟨v10, rfl, g10⟩, ⟨[v11], [.int .i64 x.f7.f0, v13], rfl, ⟨v11, rfl, g11⟩, (k34_mkM w base ok x.f7 g13)⟩⟩⟩⟩⟩⟩⟩
def rd_T47 (xs : List S47) (i : Int) : S47 := xs.getD i.toNat z47
theorem at_T47 {w : World} {A : Option Addr} {n : Nat} {xs : List S47} (h : Kd.C k47 w A n xs) (i : Int) (h0 : 0 ≤ i) (h1 : i < n) : ∃ ad A8 c8 A9 c9 A10 c10 A11 c11 A13 c13, A = some ad ∧ w.cell? (ad.add (i.toNat * 14)) = some (.int .i64 (rd_T47 xs i).f0) ∧ w.cell? ⟨(ad.add (i.toNat * 14)).block, (ad.add (i.toNat * 14)).off + 1, none⟩ = some (.int .i64 (rd_T47 xs i).f1) ∧ w.cell? ⟨(ad.add (i.toNat * 14)).block, (ad.add (i.toNat * 14)).off + 2, none⟩ = some (.int .i64 (rd_T47 xs i).f2) ∧ w.cell? ⟨(ad.add (i.toNat * 14)).block, (ad.add (i.toNat * 14)).off + 3, none⟩ = some (.int .i64 (rd_T47 xs i).f3) ∧ w.cell? ⟨(ad.add (i.toNat * 14)).block, (ad.add (i.toNat * 14)).off + 4, none⟩ = some (.string (rd_T47 xs i).f4.f0) ∧ w.cell? ⟨(ad.add (i.toNat * 14)).block, (ad.add (i.toNat * 14)).off + 5, none⟩ = some (.int .i64 (rd_T47 xs i).f4.f1.f0) ∧ w.cell? ⟨(ad.add (i.toNat * 14)).block, (ad.add (i.toNat * 14)).off + 6, none⟩ = some (.int .i64 (rd_T47 xs i).f4.f1.f1) ∧ w.cell? ⟨(ad.add (i.toNat * 14)).block, (ad.add (i.toNat * 14)).off + 7, none⟩ = some (.string (rd_T47 xs i).f4.f1.f2) ∧ w.cell? ⟨(ad.add (i.toNat * 14)).block, (ad.add (i.toNat * 14)).off + 8, none⟩ = some (.slice A8 (rd_T47 xs i).f4.f1.f3.length c8) ∧ w.cell? ⟨(ad.add (i.toNat * 14)).block, (ad.add (i.toNat * 14)).off + 9, none⟩ = some (.slice A9 (rd_T47 xs i).f4.f2.length c9) ∧ w.cell? ⟨(ad.add (i.toNat * 14)).block, (ad.add (i.toNat * 14)).off + 10, none⟩ = some (.slice A10 (rd_T47 xs i).f5.length c10) ∧ w.cell? ⟨(ad.add (i.toNat * 14)).block, (ad.add (i.toNat * 14)).off + 11, none⟩ = some (.slice A11 (rd_T47 xs i).f6.length c11) ∧ w.cell? ⟨(ad.add (i.toNat * 14)).block, (ad.add (i.toNat * 14)).off + 12, none⟩ = some (.int .i64 (rd_T47 xs i).f7.f0) ∧ w.cell? ⟨(ad.add (i.toNat * 14)).block, (ad.add (i.toNat * 14)).off + 13, none⟩ = some (.slice A13 (rd_T47 xs i).f7.f1.length c13) ∧ (rd_T47 xs i).f4.f1.f3.length ≤ c8 ∧ k42.C w A8 (rd_T47 xs i).f4.f1.f3.length (rd_T47 xs i).f4.f1.f3 ∧ (rd_T47 xs i).f4.f2.length ≤ c9 ∧ (Kd.int .i64).C w A9 (rd_T47 xs i).f4.f2.length (rd_T47 xs i).f4.f2 ∧ (rd_T47 xs i).f5.length ≤ c10 ∧ k45.C w A10 (rd_T47 xs i).f5.length (rd_T47 xs i).f5 ∧ (rd_T47 xs i).f6.length ≤ c11 ∧ k45.C w A11 (rd_T47 xs i).f6.length (rd_T47 xs i).f6 ∧ (rd_T47 xs i).f7.f1.length ≤ c13 ∧ k104.C w A13 (rd_T47 xs i).f7.f1.length (rd_T47 xs i).f7.f1 := by
  obtain ⟨ad, c, e, _, hK, hc0⟩ := Kd.C_get h z47 i h0 h1
  have hc : ∀ j u, c[j]? = some u → w.cell? (ad.add (i.toNat * 14 + j)) = some u := hc0
  obtain ⟨A8, c8, A9, c9, A10, c10, A11, c11, A13, c13, rfl, l8, g8, l9, g9, l10, g10, l11, g11, l13, g13⟩ := k47_open hK
  exact ⟨ad, A8, c8, A9, c9, A10, c10, A11, c11, A13, c13, e, hc 0 _ rfl, by rw [← add_field _ _ 1 (by omega)]; exact hc 1 _ rfl, by rw [← add_field _ _ 2 (by omega)]; exact hc 2 _ rfl, by rw [← add_field _ _ 3 (by omega)]; exact hc 3 _ rfl, by rw [← add_field _ _ 4 (by omega)]; exact hc 4 _ rfl, by rw [← add_field _ _ 5 (by omega)]; exact hc 5 _ rfl, by rw [← add_field _ _ 6 (by omega)]; exact hc 6 _ rfl, by rw [← add_field _ _ 7 (by omega)]; exact hc 7 _ rfl, by rw [← add_field _ _ 8 (by omega)]; exact hc 8 _ rfl, by rw [← add_field _ _ 9 (by omega)]; exact hc 9 _ rfl, by rw [← add_field _ _ 10 (by omega)]; exact hc 10 _ rfl, by rw [← add_field _ _ 11 (by omega)]; exact hc 11 _ rfl, by rw [← add_field _ _ 12 (by omega)]; exact hc 12 _ rfl, by rw [← add_field _ _ 13 (by omega)]; exact hc 13 _ rfl, l8, g8, l9, g9, l10, g10, l11, g11, l13, g13⟩

/-! #### struct type 109 -/
structure S109 where
  f0 : Int
  f1 : Int
  f2 : S45
  f3 : (List S45)
  f4 : S34
  f5 : (List S45)
def z109 : S109 := ⟨(0 : Int), (0 : Int), z45, ([] : List S45), z34, ([] : List S45)⟩
def k109 : Kd S109 := Kd.iso (Kd.pair (Kd.int .i64) (Kd.pair (Kd.int .i64) (Kd.pair k45 (Kd.pair (Kd.slice 45 k45) (Kd.pair k34 (Kd.slice 45 k45)))))) (fun x : S109 => (x.f0, x.f1, x.f2, x.f3, x.f4, x.f5))
theorem k109_open {w : World} {x : S109} {cs : List Value} (h : k109.K w x cs) : ∃ A6 c6 A7 c7 A8 c8 A10 c10 A11 c11, cs = [.int .i64 x.f0, .int .i64 x.f1, .string x.f2.f0, .int .i64 x.f2.f1.f0, .int .i64 x.f2.f1.f1, .string x.f2.f1.f2, .slice A6 x.f2.f1.f3.length c6, .slice A7 x.f2.f2.length c7, .slice A8 x.f3.length c8, .int .i64 x.f4.f0, .slice A10 x.f4.f1.length c10, .slice A11 x.f5.length c11] ∧ x.f2.f1.f3.length ≤ c6 ∧ k42.C w A6 x.f2.f1.f3.length x.f2.f1.f3 ∧ x.f2.f2.length ≤ c7 ∧ (Kd.int .i64).C w A7 x.f2.f2.length x.f2.f2 ∧ x.f3.length ≤ c8 ∧ k45.C w A8 x.f3.length x.f3 ∧ x.f4.f1.length ≤ c10 ∧ k104.C w A10 x.f4.f1.length x.f4.f1 ∧ x.f5.length ≤ c11 ∧ k45.C w A11 x.f5.length x.f5 := by
  obtain ⟨_, _, rfl, rfl, ⟨_, _, rfl, rfl, ⟨_, _, rfl, s2, ⟨_, _, rfl, ⟨A8, c8, rfl, l8, g8⟩, ⟨_, _, rfl, s9, ⟨A11, c11, rfl, l11, g11⟩⟩⟩⟩⟩⟩ := h
  obtain ⟨A6, c6, A7, c7, rfl, l6, g6, l7, g7⟩ := k45_open s2
  obtain ⟨A10, c10, rfl, l10, g10⟩ := k34_open s9
  exact ⟨A6, c6, A7, c7, A8, c8, A10, c10, A11, c11, rfl, l6, g6, l7, g7, l8, g8, l10, g10, l11, g11⟩
theorem k109_openM {w : World} {base : Nat} {ok : Nat → Prop} {x : S109} {cs : List Value} (h : k109.M w base ok x cs) : ∃ v6 v7 v8 v10 v11, cs = [.int .i64 x.f0, .int .i64 x.f1, .string x.f2.f0, .int .i64 x.f2.f1.f0, .int .i64 x.f2.f1.f1, .string x.f2.f1.f2, v6, v7, v8, .int .i64 x.f4.f0, v10, v11] ∧ k42.R 42 w base ok v6 x.f2.f1.f3 ∧ (Kd.int .i64).R 3 w base ok v7 x.f2.f2 ∧ k45.R 45 w base ok v8 x.f3 ∧ k104.R 104 w base ok v10 x.f4.f1 ∧ k45.R 45 w base ok v11 x.f5 := by
  obtain ⟨_, _, rfl, rfl, ⟨_, _, rfl, rfl, ⟨_, _, rfl, s2, ⟨_, _, rfl, ⟨v8, rfl, g8⟩, ⟨_, _, rfl, s9, ⟨v11, rfl, g11⟩⟩⟩⟩⟩⟩ := h
  obtain ⟨v6, v7, rfl, g6, g7⟩ := k45_openM s2
  obtain ⟨v10, rfl, g10⟩ := k34_openM s9
  exact ⟨v6, v7, v8, v10, v11, rfl, g6, g7, g8, g10, g11⟩
theorem k109_mk (w : World) (x : S109) {A6 : Option Addr} {c6 : Nat} (l6 : x.f2.f1.f3.length ≤ c6) (g6 : k42.C w A6 x.f2.f1.f3.length x.f2.f1.f3) {A7 : Option Addr} {c7 : Nat} (l7 : x.f2.f2.length ≤ c7) (g7 : (Kd.int .i64).C w A7 x.f2.f2.length x.f2.f2) {A8 : Option Addr} {c8 : Nat} (l8 : x.f3.length ≤ c8) (g8 : k45.C w A8 x.f3.length x.f3) {A10 : Option Addr} {c10 : Nat} (l10 : x.f4.f1.length ≤ c10) (g10 : k104.C w A10 x.f4.f1.length x.f4.f1) {A11 : Option Addr} {c11 : Nat} (l11 : x.f5.length ≤ c11) (g11 : k45.C w A11 x.f5.length x.f5) : k109.K w x [.int .i64 x.f0, .int .i64 x.f1, .string x.f2.f0, .int .i64 x.f2.f1.f0, .int .i64 x.f2.f1.f1, .string x.f2.f1.f2, .slice A6 x.f2.f1.f3.length c6, .slice A7 x.f2.f2.length c7, .slice A8 x.f3.length c8, .int .i64 x.f4.f0, .slice A10 x.f4.f1.length c10, .slice A11 x.f5.length c11] := ⟨[.int .i64 x.f0], [.int .i64 x.f1, .string x.f2.f0, .int .i64 x.f2.f1.f0, .int .i64 x.f2.f1.f1, .string x.f2.f1.f2, .slice A6 x.f2.f1.f3.length c6, .slice A7 x.f2.f2.length c7, .slice A8 x.f3.length c8, .int .i64 x.f4.f0, .slice A10 x.f4.f1.length c10, .slice A11 x.f5.length c11], rfl, rfl, ⟨[.int .i64 x.f1], [.string x.f2.f0, .int .i64 x.f2.f1.f0, .int .i64 x.f2.f1.f1, .string x.f2.f1.f2, .slice A6 x.f2.f1.f3.length c6, .slice A7 x.f2.f2.length c7, .slice A8 x.f3.length c8, .int .i64 x.f4.f0, .slice A10 x.f4.f1.length c10, .slice A11 x.f5.length c11], rfl, rfl, ⟨[.string x.f2.f0, .int .i64 x.f2.f1.f0, .int .i64 x.f2.f1.f1, .string x.f2.f1.f2, .slice A6 x.f2.f1.f3.length c6, .slice A7 x.f2.f2.length c7], [.slice A8 x.f3.length c8, .int .i64 x.f4.f0, .slice A10 x.f4.f1.length c10, .slice A11 x.f5.length c11], rfl, (k45_mk w x.f2 l6 g6 l7 g7), ⟨[.slice A8 x.f3.length c8], [.int .i64 x.f4.f0, .slice A10 x.f4.f1.length c10, .slice A11 x.f5.length c11], rfl, ⟨A8, c8, rfl, l8, g8⟩, ⟨[.int .i64 x.f4.f0, .slice A10 x.f4.f1.length c10], [.slice A11 x.f5.length c11], rfl, (k34_mk w x.f4 l10 g10), ⟨A11, c11, rfl, l11, g11⟩⟩⟩⟩⟩⟩
theorem k109_mkM (w : World) (base : Nat) (ok : Nat → Prop) (x : S109) {v6 : Value} (g6 : k42.R 42 w base ok v6 x.f2.f1.f3) {v7 : Value} (g7 : (Kd.int .i64).R 3 w base ok v7 x.f2.f2) {v8 : Value} (g8 : k45.R 45 w base ok v8 x.f3) {v10 : Value} (g10 : k104.R 104 w base ok v10 x.f4.f1) {v11 : Value} (g11 : k45.R 45 w base ok v11 x.f5) : k109.M w base ok x [.int .i64 x.f0, .int .i64 x.f1, .string x.f2.f0, .int .i64 x.f2.f1.f0, .int .i64 x.f2.f1.f1, .string x.f2.f1.f2, v6, v7, v8, .int .i64 x.f4.f0, v10, v11] := ⟨[.int .i64 x.f0], [.int .i64 x.f1, .string x.f2.f0, .int .i64 x.f2.f1.f0, .int .i64 x.f2.f1.f1, .string x.f2.f1.f2, v6, v7, v8, .int .i64 x.f4.f0, v10, v11], rfl, rfl, ⟨[.int .i64 x.f1], [.string x.f2.f0, .int .i64 x.f2.f1.f0, .int .i64 x.f2.f1.f1, .string x.f2.f1.f2, v6, v7, v8, .int .i64 x.f4.f0, v10, v11], rfl, rfl, ⟨[.string x.f2.f0, .int .i64 x.f2.f1.f0, .int .i64 x.f2.f1.f1, .string x.f2.f1.f2, v6, v7], [v8, .int .i64 x.f4.f0, v10, v11], rfl, (k45_mkM w base ok x.f2 g6 g7), ⟨[v8], [.int .i64 x.f4.f0, v10, v11], rfl, ⟨v8, rfl, g8⟩, ⟨[.int .i64 x.f4.f0, v10], [v11], rfl, (k34_mkM w base ok x.f4 g10), ⟨v11, rfl, g11⟩⟩⟩⟩⟩⟩
def rd_T109 (xs : List S109) (i : Int) : S109 := xs.getD i.toNat z109
theorem at_T109 {w : World} {A : Option Addr} {n : Nat} {xs : List S109} (h : Kd.C k109 w A n xs) (i : Int) (h0 : 0 ≤ i) (h1 : i < n) : ∃ ad A6 c6 A7 c7 A8 c8 A10 c10 A11 c11, A = some ad ∧ w.cell? (ad.add (i.toNat * 12)) = some (.int .i64 (rd_T109 xs i).f0) ∧ w.cell? ⟨(ad.add (i.toNat * 12)).block, (ad.add (i.toNat * 12)).off + 1, none⟩ = some (.int .i64 (rd_T109 xs i).f1) ∧ w.cell? ⟨(ad.add (i.toNat * 12)).block, (ad.add (i.toNat * 12)).off + 2, none⟩ = some (.string (rd_T109 xs i).f2.f0) ∧ w.cell? ⟨(ad.add (i.toNat * 12)).block, (ad.add (i.toNat * 12)).off + 3, none⟩ = some (.int .i64 (rd_T109 xs i).f2.f1.f0) ∧ w.cell? ⟨(ad.add (i.toNat * 12)).block, (ad.add (i.toNat * 12)).off + 4, none⟩ = some (.int .i64 (rd_T109 xs i).f2.f1.f1) ∧ w.cell? ⟨(ad.add (i.toNat * 12)).block, (ad.add (i.toNat * 12)).off + 5, none⟩ = some (.string (rd_T109 xs i).f2.f1.f2) ∧ w.cell? ⟨(ad.add (i.toNat * 12)).block, (ad.add (i.toNat * 12)).off + 6, none⟩ = some (.slice A6 (rd_T109 xs i).f2.f1.f3.length c6) ∧ w.cell? ⟨(ad.add (i.toNat * 12)).block, (ad.add (i.toNat * 12)).off + 7, none⟩ = some (.slice A7 (rd_T109 xs i).f2.f2.length c7) ∧ w.cell? ⟨(ad.add (i.toNat * 12)).block, (ad.add (i.toNat * 12)).off + 8, none⟩ = some (.slice A8 (rd_T109 xs i).f3.length c8) ∧ w.cell? ⟨(ad.add (i.toNat * 12)).block, (ad.add (i.toNat * 12)).off + 9, none⟩ = some (.int .i64 (rd_T109 xs i).f4.f0) ∧ w.cell? ⟨(ad.add (i.toNat * 12)).block, (ad.add (i.toNat * 12)).off + 10, none⟩ = some (.slice A10 (rd_T109 xs i).f4.f1.length c10) ∧ w.cell? ⟨(ad.add (i.toNat * 12)).block, (ad.add (i.toNat * 12)).off + 11, none⟩ = some (.slice A11 (rd_T109 xs i).f5.length c11) ∧ (rd_T109 xs i).f2.f1.f3.length ≤ c6 ∧ k42.C w A6 (rd_T109 xs i).f2.f1.f3.length (rd_T109 xs i).f2.f1.f3 ∧ (rd_T109 xs i).f2.f2.length ≤ c7 ∧ (Kd.int .i64).C w A7 (rd_T109 xs i).f2.f2.length (rd_T109 xs i).f2.f2 ∧ (rd_T109 xs i).f3.length ≤ c8 ∧ k45.C w A8 (rd_T109 xs i).f3.length (rd_T109 xs i).f3 ∧ (rd_T109 xs i).f4.f1.length ≤ c10 ∧ k104.C w A10 (rd_T109 xs i).f4.f1.length (rd_T109 xs i).f4.f1 ∧ (rd_T109 xs i).f5.length ≤ c11 ∧ k45.C w A11 (rd_T109 xs i).f5.length (rd_T109 xs i).f5 := by
  obtain ⟨ad, c, e, _, hK, hc0⟩ := Kd.C_get h z109 i h0 h1
  have hc : ∀ j u, c[j]? = some u → w.cell? (ad.add (i.toNat * 12 + j)) = some u := hc0
  obtain ⟨A6, c6, A7, c7, A8, c8, A10, c10, A11, c11, rfl, l6, g6, l7, g7, l8, g8, l10, g10, l11, g11⟩ := k109_open hK
  exact ⟨ad, A6, c6, A7, c7, A8, c8, A10, c10, A11, c11, e, hc 0 _ rfl, by rw [← add_field _ _ 1 (by omega)]; exact hc 1 _ rfl, by rw [← add_field _ _ 2 (by omega)]; exact hc 2 _ rfl, by rw [← add_field _ _ 3 (by omega)]; exact hc 3 _ rfl, by rw [← add_field _ _ 4 (by omega)]; exact hc 4 _ rfl, by rw [← add_field _ _ 5 (by omega)]; exact hc 5 _ rfl, by rw [← add_field _ _ 6 (by omega)]; exact hc 6 _ rfl, by rw [← add_field _ _ 7 (by omega)]; exact hc 7 _ rfl, by rw [← add_field _ _ 8 (by omega)]; exact hc 8 _ rfl, by rw [← add_field _ _ 9 (by omega)]; exact hc 9 _ rfl, by rw [← add_field _ _ 10 (by omega)]; exact hc 10 _ rfl, by rw [← add_field _ _ 11 (by omega)]; exact hc 11 _ rfl, l6, g6, l7, g7, l8, g8, l10, g10, l11, g11⟩


end Go.Proofs.Ytomfknblehkocaa.C
