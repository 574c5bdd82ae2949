/- The document's coordinator in memory. -/
import Derived.Test.YtcbaiplamaopeaaPA
namespace Go.Proofs.Ytcbaiplamaopeaa.PPostShots
open Go.RowKit Go.Conc Go.Proofs.YtcbaiplamaopeaaW.PrintWords Go.Proofs.YtcbaiplamaopeaaW.PrintLast Go.Proofs.Ytcbaiplamaopeaa.PPost
set_option linter.unusedVariables false
set_option linter.unusedSimpArgs false

/-- One of its shots: what its cells hold. -/
structure SC where
  id : Int
  st : Int
  A : Option Addr
  l : Nat
  c : Nat
  B : Option Addr
  m : Nat
  e : Nat
  pk : Int
def SC.cs (s : SC) : List Value := [.int .i64 s.id, .int .i64 s.st, .slice s.A s.l s.c, .slice s.B s.m s.e, .int .i64 s.pk]
def zSC : SC := ⟨0, 0, none, 0, 0, none, 0, 0, 0⟩
def kS : Kd SC where
  sz := 5
  E := []
  K := fun _ s cs => cs = s.cs
  M := fun _ _ _ s cs => cs = s.cs
  K_len := fun h => by rw [h]; rfl
  K_one := fun h u hu => by
    subst h
    simp only [SC.cs, List.mem_cons, List.not_mem_nil, or_false] at hu
    rcases hu with rfl | rfl | rfl | rfl | rfl <;> rfl
  K_below := fun _ h => h
  K_of_M := fun h => h
  M_mono := fun _ h => h
  M_bound := fun h => h
  M_move := fun _ h => h
  M_lower := fun _ h => h
theorem info113 : (Try.prog.info? 113).map (fun i => (i.zero, i.size, i.bytes)) = some (some (.agg #[.int .i64 0, .int .i64 0, .slice none 0 0, .slice none 0 0, .int .i64 0]), 5, 72) := by kernel_rfl
section
variable {w : World} {A : Option Addr} {n c : Nat} {base : Nat} {ok : Nat → Prop} {rows : List SC}
theorem kS_ptr (h : kS.R 113 w base ok (.slice A n c) rows) (hn : 0 < rows.length) : ∃ g, A = some ⟨g, 0, none⟩ ∧ rows.length = n ∧ base ≤ g ∧ ok g ∧ ∃ cur, w.heap[g]? = some (.cells cur 113 (0, 0)) := by
  obtain ⟨h0, inner, ho, hr⟩ := h
  rcases ho.2 with ⟨he, h1⟩ | ⟨g, cap, cur, he, hb, hg, h1, h2, h3, h4⟩
  · omega
  · injection he with e1 e2 e3
    subst e1
    exact ⟨g, rfl, e2.symm, hb, h0 g rfl, cur, hg⟩
theorem kS_at {g : Nat} (h : kS.R 113 w base ok (.slice (some ⟨g, 0, none⟩) n c) rows) (i : Nat) {s : SC} (hs : rows[i]? = some s) :
    w.cell? ⟨g, i * 5, none⟩ = some (.int .i64 s.id) ∧ w.cell? ⟨g, i * 5 + 1, none⟩ = some (.int .i64 s.st) ∧ w.cell? ⟨g, i * 5 + 2, none⟩ = some (.slice s.A s.l s.c) ∧ w.cell? ⟨g, i * 5 + 3, none⟩ = some (.slice s.B s.m s.e) ∧ w.cell? ⟨g, i * 5 + 4, none⟩ = some (.int .i64 s.pk) ∧ ∀ j, w.frozen? ⟨g, j, none⟩ = false := by
  have hi := (List.getElem?_eq_some_iff.1 hs).1
  obtain ⟨h0, inner, ho, hr⟩ := h
  rcases ho.2 with ⟨he, h1⟩ | ⟨g', cap, cur, he, hb, hg, h1, h2, h3, h4⟩
  · omega
  · injection he with e1 e2 e3
    injection e1 with e1
    injection e1 with e1
    subst e1
    have hq : (inner.drop (i * 5)).take 5 = s.cs := hr.2 i s hs
    have hin : ∀ j, j < 5 → w.cell? ⟨g, i * 5 + j, none⟩ = s.cs[j]? := by
      intro j hj
      have hlt : i * 5 + j < rows.length * 5 := by omega
      rw [blk_cell hg, ← hq, List.getElem?_take, if_pos hj, List.getElem?_drop]
      have h5 : inner = cur.toList.take (rows.length * 5) := h4.symm
      rw [h5, List.getElem?_take, if_pos hlt, Array.getElem?_toList]
    exact ⟨hin 0 (by decide), hin 1 (by decide), hin 2 (by decide), hin 3 (by decide), hin 4 (by decide), fun j => blk_frozen hg j⟩
theorem drop_take_set {α : Type} (l : List α) (i j k : Nat) (hj : j < 5) (u : α) : ((l.set (i * 5 + j) u).drop (k * 5)).take 5 = if k = i then ((l.drop (k * 5)).take 5).set j u else (l.drop (k * 5)).take 5 := by
  apply List.ext_getElem?
  intro t
  by_cases hk : k = i
  · subst hk
    rw [if_pos rfl, List.getElem?_take, List.getElem?_drop, List.getElem?_set, List.getElem?_set, List.getElem?_take, List.getElem?_drop]
    simp only [List.length_take, List.length_drop]
    by_cases ht : t < 5
    · rw [if_pos ht]
      by_cases h2 : j = t
      · subst h2
        rw [if_pos rfl, if_pos rfl]
        by_cases h3 : k * 5 + j < l.length
        · rw [if_pos h3, if_pos (by omega)]
        · rw [if_neg h3, if_neg (by omega)]
      · rw [if_neg (by omega), if_neg h2, if_pos ht]
    · rw [if_neg ht, if_neg (by omega), if_neg ht]
  · rw [if_neg hk, List.getElem?_take, List.getElem?_take, List.getElem?_drop, List.getElem?_drop, List.getElem?_set]
    by_cases ht : t < 5
    · rw [if_pos ht, if_pos ht, if_neg (by omega)]
    · rw [if_neg ht, if_neg ht]
/-- A cell of a row is written. -/
theorem kS_put {g : Nat} (h : kS.R 113 w base ok (.slice (some ⟨g, 0, none⟩) n c) rows) (i j : Nat) (hj : j < 5) {s s' : SC} (hs : rows[i]? = some s) (u : Value) (he : s'.cs = s.cs.set j u) :
    kS.R 113 (w.setCell ⟨g, i * 5 + j, none⟩ u) base ok (.slice (some ⟨g, 0, none⟩) n c) (rows.set i s') := by
  have hi := (List.getElem?_eq_some_iff.1 hs).1
  obtain ⟨h0, inner, ho, hr⟩ := h
  have hlen := hr.1
  rcases ho.2 with ⟨he', h1⟩ | ⟨g', cap, cur, he', hb, hg, h1, h2, h3, h4⟩
  · omega
  · injection he' with e1 e2 e3
    injection e1 with e1
    injection e1 with e1
    subst e1 e2 e3
    have hl5 : inner.length = rows.length * 5 := hlen
    have hc5 : cur.size = c * 5 := h3
    have h4' : cur.toList.take (rows.length * 5) = inner := h4
    have hlt : i * 5 + j < cur.size := by rw [hc5]; have : rows.length ≤ c := h1; omega
    refine ⟨h0, inner.set (i * 5 + j) u, ⟨?_, .inr ⟨g, c, cur.setIfInBounds (i * 5 + j) u, by rw [List.length_set], hb, ?_, ?_, h2, ?_, ?_⟩⟩, ?_, ?_⟩
    · rw [List.length_set, List.length_set]; exact hl5
    · exact blk_set hg (i * 5 + j) u
    · rw [List.length_set]; exact h1
    · rw [Array.size_setIfInBounds]; exact hc5
    · show (cur.setIfInBounds (i * 5 + j) u).toList.take ((rows.set i s').length * 5) = _
      rw [List.length_set, Array.toList_setIfInBounds, ← h4', List.take_set]
    · rw [List.length_set, List.length_set]; exact hl5
    · intro k q hq
      show ((inner.set (i * 5 + j) u).drop (k * 5)).take 5 = q.cs
      rw [drop_take_set _ _ _ _ hj]
      rw [List.getElem?_set] at hq
      by_cases hk : i = k
      · subst hk
        rw [if_pos rfl, if_pos hi] at hq
        injection hq with hq
        subst hq
        have hq2 : (inner.drop (i * 5)).take 5 = s.cs := hr.2 i s hs
        rw [if_pos rfl, hq2, he]
      · rw [if_neg hk] at hq
        rw [if_neg (fun e => hk e.symm)]
        exact hr.2 k q hq
end
/-- What the document's coordinator knows: its snapshots' statuses; of the last one: its parts, whose they are, how many were picked. -/
structure RA where
  n : Nat
  first : Int
  sum : Int
  sts : List Int
  ps : List S40
  ts : List Int
  pk : Nat
structure RA.Ok (R : RA) : Prop where
  n1 : 1 ≤ R.n
  n2 : R.n ≤ 12
  f1 : 1 ≤ R.first
  f2 : R.first + R.sts.length ≤ 10000
  lt : R.ts.length = R.ps.length
  lm : R.ps.length ≤ 12
  lp : R.pk ≤ R.ps.length
def RA.now (R : RA) : Int := if R.sts.getLast? = some 1 then (R.sts.length : Int) - 1 else -1
/-- The last shot's rows. -/
structure LastAt (own : Nat → Nat) (w : World) (tg : Nat) (s : SC) (pps : List PP) (ts : List Int) (kk : Nat) : Prop where
  hp : (pk k40 own w).R 40 w 0 (fun k => own k = tg + 2) (.slice s.A s.l s.c) pps
  ht : (Kd.int .i64).R 3 w 0 (fun k => own k = tg + 3) (.slice s.B s.m s.e) ts
  hk : s.pk = kk
/-- It is so in memory, at block g; its blocks have the tags tg (itself), tg + 1 (the shots), tg + 2 and tg + 3 (the last one's parts, and whose they are). -/
structure RefAt (own : Nat → Nat) (w : World) (g tg : Nat) (R : RA) (A : Option Addr) (c : Nat) (rows : List SC) (pps : List PP) : Prop where
  hb : w.heap[g]? = some (.cells #[.int .i64 R.n, .int .i64 R.first, .int .u32 R.sum, .slice A rows.length c] 94 (0, 0))
  hr : kS.R 113 w 0 (fun k => own k = tg + 1) (.slice A rows.length c) rows
  es : rows.map (·.st) = R.sts
  ei : ∀ (i : Nat) (s : SC), rows[i]? = some s → s.id = R.first + i
  ep : pps.map (·.1) = R.ps
  hl : ∀ s, rows.getLast? = some s → LastAt own w tg s pps R.ts R.pk
  ok : R.Ok
  og : own g = tg
theorem R_upd {α : Type} {d : Kd α} {e n : Nat} {own own' : Nat → Nat} {w w' : World} {v : Value} {xs : List α} {S : Nat → Prop} (h : d.R e w 0 (fun k => own k = n) v xs) (hn : ¬ S n) (hu : Upd S own w own' w') : d.R e w' 0 (fun k => own' k = n) v xs :=
  Kd.R_mono (Kd.R_move (Kd.R_bound h) (fun k hk => hu.block k hk.2.2.1 (by rw [hk.1]; exact hn))) (fun k hk => (hu.same k hk.2.2.1 (by rw [hk.1]; exact hn)).trans hk.1)
theorem LastAt.upd {own own' : Nat → Nat} {w w' : World} {tg : Nat} {s : SC} {pps : List PP} {ts : List Int} {kk : Nat} {T : Nat → Prop} (h : LastAt own w tg s pps ts kk) (h0 : ¬ T 0) (h2 : ¬ T (tg + 2)) (h3 : ¬ T (tg + 3)) (hu : Upd T own w own' w') : LastAt own' w' tg s pps ts kk :=
  ⟨pk_R (R_upd h.hp h2 hu) h0 hu, R_upd h.ht h3 hu, h.hk⟩
theorem RefAt.upd {own own' : Nat → Nat} {w w' : World} {g tg : Nat} {R : RA} {A : Option Addr} {c : Nat} {rows : List SC} {pps : List PP} {T : Nat → Prop} (h : RefAt own w g tg R A c rows pps) (h0 : ¬ T 0) (ht : ∀ t, tg ≤ t → t ≤ tg + 3 → ¬ T t) (hu : Upd T own w own' w') : RefAt own' w' g tg R A c rows pps where
  hb := hu.blk h.hb (by rw [h.og]; exact ht tg (Nat.le_refl _) (by omega))
  hr := R_upd h.hr (ht (tg + 1) (by omega) (by omega)) hu
  es := h.es
  ei := h.ei
  ep := h.ep
  hl := fun s hs => (h.hl s hs).upd h0 (ht (tg + 2) (by omega) (by omega)) (ht (tg + 3) (by omega) (by omega)) hu
  ok := h.ok
  og := (hu.same g (blk_lt h.hb) (by rw [h.og]; exact ht tg (Nat.le_refl _) (by omega))).trans h.og
/-- The tags of a document's coordinator. -/
def Tg (tg : Nat) (t : Nat) : Prop := tg ≤ t ∧ t ≤ tg + 4
/-- It came to R, by nothing but its own blocks. -/
def RefTo (own : Nat → Nat) (w : World) (g tg : Nat) (R : RA) (w' : World) : Prop := ∃ own' A c rows pps, RefAt own' w' g tg R A c rows pps ∧ Upd (Tg tg) own w own' w'
section
variable {own : Nat → Nat} {w : World} {g tg : Nat} {R : RA} {A : Option Addr} {c : Nat} {rows : List SC} {pps : List PP} (h : RefAt own w g tg R A c rows pps)
include h
theorem RefAt.len : rows.length = R.sts.length := by rw [← h.es, List.length_map]
theorem RefAt.max : rows.length ≤ 10000 := by have := h.ok.f1; have := h.ok.f2; rw [h.len]; omega
theorem RefAt.last_under (hu : R.sts.getLast? = some 1) : ∃ rs s, rows = rs ++ [s] ∧ s.st = 1 := by
  rw [← h.es, List.getLast?_map] at hu
  cases hs : rows.getLast? with
  | none => rw [hs] at hu; cases hu
  | some s =>
    rw [hs] at hu
    injection hu with hu
    obtain ⟨rs, rfl⟩ := List.getLast?_eq_some_iff.1 hs
    exact ⟨rs, s, rfl, hu⟩
end
end Go.Proofs.Ytcbaiplamaopeaa.PPostShots
