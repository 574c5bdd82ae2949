/- Whose block is it: what may turn and what stays for ever; what is read the same for ever after. -/
import Derived.Test.YtcbaiplamaopeaaT
namespace Go.Proofs.Ytcbaiplamaopeaa.PPostShots
open Go.RowKit Go.Conc Go.Proofs.YtcbaiplamaopeaaW.PrintWords Go.Proofs.YtcbaiplamaopeaaW.PrintLast
set_option linter.unusedVariables false
set_option linter.unusedSimpArgs false

/-- Only blocks whose tag S lets in may have turned. -/
structure Upd (S : Nat → Prop) (own : Nat → Nat) (w : World) (own' : Nat → Nat) (w' : World) : Prop where
  os : w'.os = w.os
  tape : w'.tape = w.tape
  output : w'.output = w.output
  size : w.heap.size ≤ w'.heap.size
  same : ∀ k, k < w.heap.size → ¬ S (own k) → own' k = own k
  block : ∀ k, k < w.heap.size → ¬ S (own k) → w'.heap[k]? = w.heap[k]?
theorem Upd.refl (S : Nat → Prop) (own : Nat → Nat) (w : World) : Upd S own w own w := ⟨rfl, rfl, rfl, Nat.le_refl _, fun _ _ _ => rfl, fun _ _ _ => rfl⟩
theorem Upd.trans {S1 S2 : Nat → Prop} {o1 o2 o3 : Nat → Nat} {a b c : World} (h : Upd S1 o1 a o2 b) (k : Upd S2 o2 b o3 c) : Upd (fun t => S1 t ∨ S2 t) o1 a o3 c :=
  ⟨k.os.trans h.os, k.tape.trans h.tape, k.output.trans h.output, Nat.le_trans h.size k.size,
    fun i hi ho => (k.same i (Nat.lt_of_lt_of_le hi h.size) (by rw [h.same i hi (fun hs => ho (.inl hs))]; exact fun hs => ho (.inr hs))).trans (h.same i hi (fun hs => ho (.inl hs))),
    fun i hi ho => (k.block i (Nat.lt_of_lt_of_le hi h.size) (by rw [h.same i hi (fun hs => ho (.inl hs))]; exact fun hs => ho (.inr hs))).trans (h.block i hi (fun hs => ho (.inl hs)))⟩
theorem Upd.mono {S S' : Nat → Prop} {o1 o2 : Nat → Nat} {a b : World} (h : Upd S o1 a o2 b) (hs : ∀ t, S t → S' t) : Upd S' o1 a o2 b :=
  ⟨h.os, h.tape, h.output, h.size, fun i hi ho => h.same i hi (fun x => ho (hs _ x)), fun i hi ho => h.block i hi (fun x => ho (hs _ x))⟩
theorem Upd.then {S : Nat → Prop} {o1 o2 o3 : Nat → Nat} {a b c : World} (h : Upd S o1 a o2 b) (k : Upd S o2 b o3 c) : Upd S o1 a o3 c := (h.trans k).mono (fun _ h => h.elim id id)
/-- The tags of what is new: n. -/
def fresh (own : Nat → Nat) (w : World) (n : Nat) : Nat → Nat := fun k => if k < w.heap.size then own k else n
theorem fresh_old {own : Nat → Nat} {w : World} {n k : Nat} (h : k < w.heap.size) : fresh own w n k = own k := if_pos h
theorem fresh_new {own : Nat → Nat} {w : World} {n k : Nat} (h : w.heap.size ≤ k) : fresh own w n k = n := if_neg (by omega)
theorem Upd.of_below {S : Nat → Prop} {own : Nat → Nat} {w w' : World} (h : Below w.heap.size w w') (n : Nat) : Upd S own w (fresh own w n) w' :=
  ⟨h.os, h.tape, h.output, h.size, fun k hk _ => fresh_old hk, fun k hk _ => h.block k hk⟩
theorem Upd.of_below' {S : Nat → Prop} {own own' : Nat → Nat} {w w' : World} (h : Below w.heap.size w w') (ho : ∀ k, k < w.heap.size → own' k = own k) : Upd S own w own' w' :=
  ⟨h.os, h.tape, h.output, h.size, fun k hk _ => ho k hk, fun k hk _ => h.block k hk⟩
theorem Upd.below {S : Nat → Prop} {o1 o2 : Nat → Nat} {w w' : World} (h : Upd S o1 w o2 w') {B : Nat} (hB : B ≤ w.heap.size) (ho : ∀ k, k < B → ¬ S (o1 k)) : Below B w w' := ⟨h.os, h.tape, h.output, h.size, fun k hk => h.block k (by omega) (ho k hk)⟩
theorem Upd.set {S : Nat → Prop} {own : Nat → Nat} {w : World} {p : Addr} (h : S (own p.block)) (u : Value) : Upd S own w own (w.setCell p u) :=
  ⟨rfl, rfl, rfl, by simp [World.setCell], fun _ _ _ => rfl, fun k hk ho => Below.heap_setCell _ _ _ _ (fun e => ho (by subst e; exact h))⟩
theorem Upd.chan {S : Nat → Prop} {own : Nat → Nat} {w : World} {c : Nat} (h : S (own c)) (cap : Nat) (buf : Array Value) (cl : Bool) (s r : Nat) (tm : Bool) : Upd S own w own (w.setChan c cap buf cl s r tm) :=
  ⟨rfl, rfl, rfl, by simp [World.setChan], fun _ _ _ => rfl, fun k hk ho => by simp only [World.setChan]; rw [Array.getElem?_setIfInBounds_ne (fun e => ho (by subst e; exact h))]⟩
theorem Upd.drew {S : Nat → Prop} {own : Nat → Nat} {w : World} : Upd S own w own w.drew := ⟨rfl, rfl, rfl, Nat.le_refl _, fun _ _ _ => rfl, fun _ _ _ => rfl⟩
theorem Upd.alloc {S : Nat → Prop} {own : Nat → Nat} {w : World} (o : Obj) (n : Nat) : Upd S own w (fresh own w n) (w.alloc o) := .of_below ((Below.refl _ _).alloc (Nat.le_refl _) _) n
theorem Upd.cell {S : Nat → Prop} {o1 o2 : Nat → Nat} {w w' : World} (h : Upd S o1 w o2 w') {a : Addr} {v : Value} (hc : w.cell? a = some v) (ha : ¬ S (o1 a.block)) : w'.cell? a = some v :=
  (World.cell?_of_block (h.block a.block (World.block_lt_of_cell? w a hc) ha)).trans hc
theorem Upd.blk {S : Nat → Prop} {o1 o2 : Nat → Nat} {w w' : World} (h : Upd S o1 w o2 w') {k : Nat} {o : Obj} (hc : w.heap[k]? = some o) (ha : ¬ S (o1 k)) : w'.heap[k]? = some o := (h.block k (blk_lt hc) ha).trans hc

/-- x is read in cs, here and in every world to come: blocks with the tag 0 stay. -/
def St {α : Type} (d : Kd α) (own : Nat → Nat) (w : World) (x : α) (cs : List Value) : Prop := ∀ S own' w', ¬ S 0 → Upd S own w own' w' → d.K w' x cs
def StC {α : Type} (d : Kd α) (own : Nat → Nat) (w : World) (A : Option Addr) (n : Nat) (xs : List α) : Prop := ∀ S own' w', ¬ S 0 → Upd S own w own' w' → d.C w' A n xs
section
variable {α : Type} {d : Kd α} {own own' : Nat → Nat} {w w' : World} {x : α} {xs : List α} {cs : List Value} {A : Option Addr} {n : Nat} {S : Nat → Prop}
theorem St.now (h : St d own w x cs) : d.K w x cs := h (fun _ => False) own w (fun h => h) (Upd.refl _ _ _)
theorem StC.now (h : StC d own w A n xs) : d.C w A n xs := h (fun _ => False) own w (fun h => h) (Upd.refl _ _ _)
theorem St.upd (h : St d own w x cs) (hS : ¬ S 0) (hu : Upd S own w own' w') : St d own' w' x cs := fun S2 o2 w2 h2 hu2 => h _ o2 w2 (fun x => x.elim hS h2) (hu.trans hu2)
theorem StC.upd (h : StC d own w A n xs) (hS : ¬ S 0) (hu : Upd S own w own' w') : StC d own' w' A n xs := fun S2 o2 w2 h2 hu2 => h _ o2 w2 (fun x => x.elim hS h2) (hu.trans hu2)
theorem St.len (h : St d own w x cs) : cs.length = d.sz := d.K_len h.now
theorem StC.len (h : StC d own w A n xs) : xs.length = n := Kd.C_len h.now
theorem StC.nil (d : Kd α) (own : Nat → Nat) (w : World) : StC d own w none 0 [] := fun _ _ _ _ _ => Kd.C_nil _ _
/-- What came in. -/
theorem StC.came (h : d.C w A n xs) (h0 : ∀ k, k < w.heap.size → own k = 0) : StC d own w A n xs := fun S o2 w2 hS hu => Kd.C_below h (hu.below (Nat.le_refl _) (fun k hk => by rw [h0 k hk]; exact hS))
/-- What was made, and is let go. -/
theorem StC.made {e base n c : Nat} (h : d.R e w base (fun k => own k = 0) (.slice A n c) xs) : StC d own w A n xs := by
  intro S o2 w2 hS hu
  have hl := (Kd.R_reads' h).1
  have hq := Kd.Q_step (w1 := w2) (Kd.Q_of_R h) (fun k hk hlt => hu.block k hlt (by rw [hk]; exact hS))
  obtain ⟨h1, h2, h3⟩ := Kd.Q_reads' hq
  rw [h1]
  exact h3
/-- New blocks get the tag 0. -/
theorem StC.newly {e n c : Nat} (h : d.R e w' w.heap.size (fun _ => True) (.slice A n c) xs) (ho : ∀ k, w.heap.size ≤ k → own k = 0) : StC d own w' A n xs :=
  .made (Kd.R_mono (Kd.R_bound h) (fun k hk => ho k hk.2.1))
end
/-- An element whose cells are known. -/
def pk {α : Type} (d : Kd α) (own : Nat → Nat) (w0 : World) : Kd (α × List Value) where
  sz := d.sz
  E := []
  K := fun _ p cs => cs = p.2 ∧ St d own w0 p.1 p.2
  M := fun _ _ _ p cs => cs = p.2 ∧ St d own w0 p.1 p.2
  K_len := fun h => by rw [h.1]; exact h.2.len
  K_one := fun h => by rw [h.1]; exact d.K_one h.2.now
  K_below := fun _ h => h
  K_of_M := fun h => h
  M_mono := fun _ h => h
  M_bound := fun h => h
  M_move := fun _ h => h
  M_lower := fun _ h => h
section
variable {α : Type} {d : Kd α} {own own' : Nat → Nat} {w0 w w' : World} {A : Option Addr} {n : Nat} {S : Nat → Prop} {l : List (α × List Value)}
theorem pk_upd (hS : ¬ S 0) (hu : Upd S own w own' w') : ∀ p cs, (pk d own w).K w p cs → (pk d own' w').K w p cs := fun _ _ h => ⟨h.1, h.2.upd hS hu⟩
theorem pk_C (h : (pk d own w0).C w A n l) (hS : ¬ S 0) (hu : Upd S own w0 own' w') : (pk d own' w').C w A n l := Kd.C_imp (d := pk d own w0) (d' := pk d own' w') rfl (fun _ _ _ h => ⟨h.1, h.2.upd hS hu⟩) h
theorem pk_R {e base : Nat} {ok : Nat → Prop} {v : Value} (h : (pk d own w0).R e w base ok v l) (hS : ¬ S 0) (hu : Upd S own w0 own' w') : (pk d own' w').R e w base ok v l := Kd.R_imp (d := pk d own w0) (d' := pk d own' w') rfl (fun _ _ _ _ _ h => ⟨h.1, h.2.upd hS hu⟩) h
theorem pk_St {e base : Nat} {ok : Nat → Prop} {v : Value} (h : (pk d own w0).R e w base ok v l) : ∀ p ∈ l, St d own w0 p.1 p.2 := by
  intro p hp
  obtain ⟨A, c, rfl⟩ := Kd.R_slice h
  have hC := (Kd.R_reads' h).2.2
  obtain ⟨j, hj, he⟩ := List.mem_iff_getElem.1 hp
  obtain ⟨ad, c, -, -, hK, -⟩ := Kd.C_get hC p (j : Int) (by omega) (by omega)
  rw [Int.toNat_natCast, List.getD_eq_getElem?_getD, List.getElem?_eq_getElem hj, Option.getD_some, he] at hK
  exact hK.2
/-- Pairs read are elements read. -/
theorem C_of_pk (h : (pk d own w).C w A n l) : d.C w A n (l.map (·.1)) := by
  refine ⟨by rw [List.length_map]; exact h.1, h.2.1, fun hn => ?_⟩
  obtain ⟨ad, e, hc⟩ := h.2.2 hn
  refine ⟨ad, e, fun j p hj => ?_⟩
  rw [List.getElem?_map] at hj
  cases hq : l[j]? with
  | none => rw [hq] at hj; cases hj
  | some q =>
    rw [hq] at hj
    obtain rfl := Option.some.inj hj
    obtain ⟨c, hl, hK, hcell⟩ := hc j q hq
    exact ⟨c, hl, (by rw [hK.1]; exact hK.2.now), hcell⟩
theorem StC_of_pk {e base n c : Nat} (h : (pk d own w).R e w base (fun k => own k = 0) (.slice A n c) l) : StC d own w A n (l.map (·.1)) := by
  intro S o2 w2 hS hu
  exact C_of_pk (pk_C (StC.made h S o2 w2 hS hu) hS hu)
theorem StC_pk {n : Nat} (h : StC (pk d own w) own w A n l) : StC d own w A n (l.map (·.1)) := fun S o2 w2 hS hu => C_of_pk (pk_C (h S o2 w2 hS hu) hS hu)
/-- Pairs that are read for ever: the pairs' own world goes along. -/
theorem StC_pk_upd {n : Nat} (h : StC (pk d own w) own w A n l) (h0 : ¬ S 0) (hu : Upd S own w own' w') : StC (pk d own' w') own' w' A n l :=
  fun S2 o2 w2 hS2 hu2 => pk_C (h _ o2 w2 (fun x => x.elim h0 hS2) (hu.trans hu2)) h0 hu
end
end Go.Proofs.Ytcbaiplamaopeaa.PPostShots
