/- What the reference's keys answers, plainly: all keys, each once, rising. -/
import Derived.Test.YtpplnhefpcofoaaZQA
namespace Go.Proofs.Ytpplnhefpcofoaa.PDeltaJoin
open Go.RowKit Go.Proofs.YtpplnhefpcofoaaW.PrintWords Go.Proofs.YtpplnhefpcofoaaW.PrintLast
set_option linter.unusedVariables false
set_option linter.unusedSimpArgs false
theorem Ris.nodup {α : Type} {key : α → ByteArray} {l : List α} (h : Ris key l) : l.Nodup := List.Pairwise.imp (S := fun a b => a ≠ b) (fun {a b} (h2 : klt (key a) (key b)) (e : a = b) => klt_irrefl (key b) (by rw [e] at h2; exact h2)) h
theorem nodup_len {α : Type} [DecidableEq α] : ∀ (l m : List α), l.Nodup → (∀ x ∈ l, x ∈ m) → l.length ≤ m.length
  | [], m, _, _ => Nat.zero_le _
  | x :: l, m, hn, h => by
    have hn' := List.nodup_cons.1 hn
    have hx : x ∈ m := h x List.mem_cons_self
    have := nodup_len l (m.erase x) hn'.2 (fun y hy => (List.mem_erase_of_ne (fun e => hn'.1 (by rw [← e]; exact hy))).2 (h y (List.mem_cons_of_mem _ hy)))
    rw [List.length_erase_of_mem hx] at this
    have h0 : 0 < m.length := List.length_pos_of_mem hx
    rw [List.length_cons]
    omega
/-- Above all that came out so far. -/
def aboveL (out : List ByteArray) (x : ByteArray) : Prop := ∀ y, y ∈ out → klt y x
/-- What has come out: rising, of the list; what did not come out is above it. -/
structure OutK (L out : List ByteArray) : Prop where
  ris : Ris kS out
  sub : ∀ x ∈ out, x ∈ L
  rest : ∀ x ∈ L, x ∈ out ∨ aboveL out x
/-- The least above out among the first i, if there is one. -/
def NextK (L out : List ByteArray) (i : Nat) (next : ByteArray) (some_ : Bool) : Prop :=
  (some_ = true → next ∈ L ∧ aboveL out next ∧ ∀ x ∈ L.take i, aboveL out x → x = next ∨ klt next x) ∧ (some_ = false → ∀ x ∈ L.take i, ¬ aboveL out x)
theorem bytesLess_klt (a b : ByteArray) : Op.bytesLess a.toList b.toList = true ↔ klt a b := by rw [bytesLess_lt]; exact decide_eq_true_iff
theorem klt_tri (a b : ByteArray) : klt a b ∨ a = b ∨ klt b a := by
  rcases Std.lt_trichotomy a.toList b.toList with h | h | h
  · exact .inl h
  · exact .inr (.inl (toList_eq_iff.1 h))
  · exact .inr (.inr h)
/-- Above the last one is above all. -/
theorem aboveL_last {out : List ByteArray} (h : Ris kS out) {x : ByteArray} (hne : out ≠ []) : aboveL out x ↔ klt (out.getLast hne) x := by
  constructor
  · exact fun hx => hx _ (List.getLast_mem hne)
  · intro hx y hy
    have hd : out.dropLast ++ [out.getLast hne] = out := List.dropLast_concat_getLast hne
    rw [← hd] at hy
    rcases List.mem_append.1 hy with hy | hy
    · have hp := List.pairwise_append.1 (by rw [hd]; exact h : List.Pairwise (fun x y => klt (kS x) (kS y)) (out.dropLast ++ [out.getLast hne]))
      exact klt_trans (hp.2.2 y hy _ List.mem_cons_self) hx
    · rw [List.mem_singleton.1 hy]; exact hx
theorem NextK.step {L out : List ByteArray} {i : Nat} (hi : i < L.length) {next : ByteArray} {some_ : Bool} (h : NextK L out i next some_) :
    (¬ aboveL out L[i] → NextK L out (i + 1) next some_) ∧ (aboveL out L[i] → some_ = false → NextK L out (i + 1) L[i] true) ∧
    (aboveL out L[i] → some_ = true → klt L[i] next → NextK L out (i + 1) L[i] true) ∧ (some_ = true → ¬ klt L[i] next → NextK L out (i + 1) next some_) := by
  have ht : ∀ x, x ∈ L.take (i + 1) ↔ x ∈ L.take i ∨ x = L[i] := fun x => by rw [← List.take_append_getElem hi, List.mem_append, List.mem_singleton]
  refine ⟨fun hn => ⟨fun hs => ?_, fun hs x hx => ?_⟩, fun ha hs => ⟨fun _ => ?_, fun e => by cases e⟩, fun ha hs hlt => ⟨fun _ => ?_, fun e => by cases e⟩, fun hs hn => ⟨fun _ => ?_, fun e => by rw [hs] at e; cases e⟩⟩
  · obtain ⟨h1, h2, h3⟩ := h.1 hs
    refine ⟨h1, h2, fun x hx hax => ?_⟩
    rcases (ht x).1 hx with hx | rfl
    · exact h3 x hx hax
    · exact absurd hax hn
  · rcases (ht x).1 hx with hx | rfl
    · exact h.2 hs x hx
    · exact hn
  · refine ⟨List.getElem_mem hi, ha, fun x hx hax => ?_⟩
    rcases (ht x).1 hx with hx | rfl
    · exact absurd hax (h.2 hs x hx)
    · exact .inl rfl
  · obtain ⟨h1, h2, h3⟩ := h.1 hs
    refine ⟨List.getElem_mem hi, ha, fun x hx hax => ?_⟩
    rcases (ht x).1 hx with hx | rfl
    · rcases h3 x hx hax with rfl | h4
      · exact .inr hlt
      · exact .inr (klt_trans hlt h4)
    · exact .inl rfl
  · obtain ⟨h1, h2, h3⟩ := h.1 hs
    refine ⟨h1, h2, fun x hx hax => ?_⟩
    rcases (ht x).1 hx with hx | rfl
    · exact h3 x hx hax
    · rcases klt_tri L[i] next with h4 | h4 | h4
      · exact absurd h4 hn
      · exact .inl h4
      · exact .inr h4
/-- A next one behind the last. -/
theorem OutK.push {L out : List ByteArray} (h : OutK L out) {next : ByteArray} (hn : NextK L out L.length next true) : OutK L (out ++ [next]) := by
  obtain ⟨h1, h2, h3⟩ := hn.1 rfl
  rw [List.take_length] at h3
  refine ⟨List.pairwise_append.2 ⟨h.ris, List.pairwise_singleton _ _, fun y hy z hz => ?_⟩, fun x hx => ?_, fun x hx => ?_⟩
  · rw [List.mem_singleton.1 hz]; exact h2 y hy
  · rcases List.mem_append.1 hx with hx | hx
    · exact h.sub x hx
    · rw [List.mem_singleton.1 hx]; exact h1
  · rcases h.rest x hx with hx2 | hx2
    · exact .inl (List.mem_append_left _ hx2)
    · rcases h3 x hx hx2 with rfl | h4
      · exact .inl (List.mem_append_right _ List.mem_cons_self)
      · refine .inr (fun y hy => ?_)
        rcases List.mem_append.1 hy with hy | hy
        · exact hx2 y hy
        · rw [List.mem_singleton.1 hy]; exact h4
/-- All of L, each once, rising. -/
structure KeysOf (L r : List ByteArray) : Prop where
  ris : Ris kS r
  mem : ∀ k, k ∈ r ↔ k ∈ L
theorem OutK.done {L out : List ByteArray} (h : OutK L out) (hn : ∀ x ∈ L, ¬ aboveL out x) : KeysOf L out := ⟨h.ris, fun k => ⟨h.sub k, fun hk => (h.rest k hk).resolve_right (hn k hk)⟩⟩
theorem OutK.full {L out : List ByteArray} (h : OutK L out) (hl : L.length ≤ out.length) : KeysOf L out := by
  refine h.done (fun x hx hax => ?_)
  have hnot : x ∉ out := fun hm => klt_irrefl x (hax x hm)
  have := nodup_len (x :: out) L (List.nodup_cons.2 ⟨hnot, h.ris.nodup⟩) (fun y hy => by
    rcases List.mem_cons.1 hy with rfl | hy
    · exact hx
    · exact h.sub y hy)
  rw [List.length_cons] at this
  omega
theorem keysL3 (L out : List ByteArray) (ho : OutK L out) (hL : L.length ≤ 1000000)
    (again : ∀ next, OutK L (out ++ [next]) → ∃ K r, eddyref11_keys.l2 K L (out ++ [next]) = some r ∧ KeysOf L r) :
    ∀ d i next some_, i + d = L.length → NextK L out i next some_ → ∃ K r, eddyref11_keys.l3 K L out next some_ (i : Int) = some r ∧ KeysOf L r := by
  have hol : out.length ≤ 1000000 := by have := nodup_len out L ho.ris.nodup ho.sub; omega
  intro d
  induction d with
  | zero =>
    intro i next some_ hi hn
    have hi' : i = L.length := by omega
    subst hi'
    cases some_ with
    | false => exact ⟨1, out, by rw [eddyref11_keys.l3, if_neg (by omega), if_neg (by simp)], ho.done (fun x hx => hn.2 rfl x (by rw [List.take_length]; exact hx))⟩
    | true =>
      obtain ⟨K, r, hK, hr⟩ := again next (ho.push hn)
      exact ⟨K + 1, r, by rw [eddyref11_keys.l3, if_neg (by omega), if_pos rfl, if_pos (by omega)]; exact hK, hr⟩
  | succ d ih =>
    intro i next some_ hi hn
    have hlt : i < L.length := by omega
    obtain ⟨s1, s2, s3, s4⟩ := hn.step hlt
    have go : ∀ next' some', NextK L out (i + 1) next' some' → ∃ K r, eddyref11_keys.l3 K L out next' some' (wrap64 ((i : Int) + 1)) = some r ∧ KeysOf L r := fun next' some' h => by
      rw [wrap64_succ i (by omega)]
      exact ih (i + 1) next' some' (by omega) h
    by_cases he : out = []
    · subst he
      have hab : aboveL [] L[i] := fun y hy => by cases hy
      cases some_ with
      | false =>
        obtain ⟨K, r, hK, hr⟩ := go _ _ (s2 hab rfl)
        exact ⟨K + 1, r, by rw [eddyref11_keys.l3, if_pos (by omega), if_pos (by simp), if_neg (by simp), if_pos (by omega), rdOf_nat L i hlt]; exact hK, hr⟩
      | true =>
        by_cases hk : klt L[i] next
        · obtain ⟨K, r, hK, hr⟩ := go _ _ (s3 hab rfl hk)
          exact ⟨K + 1, r, by rw [eddyref11_keys.l3, if_pos (by omega), if_pos (by simp), if_pos rfl, if_pos (by omega), rdOf_nat L i hlt, if_pos ((bytesLess_klt _ _).2 hk)]; exact hK, hr⟩
        · obtain ⟨K, r, hK, hr⟩ := go _ _ (s4 rfl hk)
          exact ⟨K + 1, r, by rw [eddyref11_keys.l3, if_pos (by omega), if_pos (by simp), if_pos rfl, if_pos (by omega), rdOf_nat L i hlt, if_neg (fun h => hk ((bytesLess_klt _ _).1 h))]; exact hK, hr⟩
    · have hp : 0 < out.length := List.length_pos_iff.2 he
      have hw : wrap64 ((out.length : Int) - 1) = ((out.length - 1 : Nat) : Int) := by unfold wrap64; omega
      have hlast : rdOf ByteArray.empty out ((out.length - 1 : Nat) : Int) = out.getLast he := by rw [rdOf_nat _ _ (by omega), List.getLast_eq_getElem]
      have hab := aboveL_last ho.ris (x := L[i]) he
      have unf : ∀ K, eddyref11_keys.l3 (K + 1) L out next some_ (i : Int) = (if (Op.bytesLess (out.getLast he).toList L[i].toList) = true then (if some_ = true then (if (Op.bytesLess L[i].toList next.toList) = true then eddyref11_keys.l3 K L out L[i] true (wrap64 ((i : Int) + 1)) else eddyref11_keys.l3 K L out next some_ (wrap64 ((i : Int) + 1))) else eddyref11_keys.l3 K L out L[i] true (wrap64 ((i : Int) + 1))) else eddyref11_keys.l3 K L out next some_ (wrap64 ((i : Int) + 1))) := fun K => by
        rw [eddyref11_keys.l3, if_pos (by omega), if_neg (by omega), if_pos (by omega), hw, if_pos (by omega), if_pos (by omega), rdOf_nat L i hlt, hlast]
      by_cases ha : klt (out.getLast he) L[i]
      · cases some_ with
        | false =>
          obtain ⟨K, r, hK, hr⟩ := go _ _ (s2 (hab.2 ha) rfl)
          exact ⟨K + 1, r, by rw [unf, if_pos ((bytesLess_klt _ _).2 ha), if_neg (by simp)]; exact hK, hr⟩
        | true =>
          by_cases hk : klt L[i] next
          · obtain ⟨K, r, hK, hr⟩ := go _ _ (s3 (hab.2 ha) rfl hk)
            exact ⟨K + 1, r, by rw [unf, if_pos ((bytesLess_klt _ _).2 ha), if_pos rfl, if_pos ((bytesLess_klt _ _).2 hk)]; exact hK, hr⟩
          · obtain ⟨K, r, hK, hr⟩ := go _ _ (s4 rfl hk)
            exact ⟨K + 1, r, by rw [unf, if_pos ((bytesLess_klt _ _).2 ha), if_pos rfl, if_neg (fun h => hk ((bytesLess_klt _ _).1 h))]; exact hK, hr⟩
      · obtain ⟨K, r, hK, hr⟩ := go _ _ (s1 (fun h => ha (hab.1 h)))
        exact ⟨K + 1, r, by rw [unf, if_neg (fun h => ha ((bytesLess_klt _ _).1 h))]; exact hK, hr⟩
theorem keysL2 (L : List ByteArray) (hL : L.length ≤ 1000000) : ∀ (m : Nat) (out : List ByteArray), OutK L out → L.length ≤ out.length + m → ∃ K r, eddyref11_keys.l2 K L out = some r ∧ KeysOf L r
  | 0, out, ho, hm => ⟨1, out, by rw [eddyref11_keys.l2, if_neg (by omega)], ho.full (by omega)⟩
  | m + 1, out, ho, hm => by
    by_cases hlt : out.length < L.length
    · obtain ⟨K, r, hK, hr⟩ := keysL3 L out ho hL (fun next hn => keysL2 L hL m (out ++ [next]) hn (by rw [List.length_append, List.length_singleton]; omega)) L.length 0 ⟨#[]⟩ false (by omega) ⟨fun e => (by cases e), fun _ x hx => (by rw [List.take_zero] at hx; cases hx)⟩
      exact ⟨K + 1, r, by rw [eddyref11_keys.l2, if_pos (by omega)]; exact hK, hr⟩
    · exact ⟨1, out, by rw [eddyref11_keys.l2, if_neg (by omega)], ho.full (by omega)⟩
theorem keys_some (a b : List S63) (c d : List ByteArray) (ha : a.length ≤ 10000) (hb : b.length ≤ 10000) (hc : c.length ≤ 10000) (hd : d.length ≤ 10000) :
    ∃ K r, eddyref11_keys.f K a b c d = some r ∧ Ris kS r ∧ ∀ k, k ∈ r ↔ inC a k ∨ inC b k ∨ k ∈ c ∨ k ∈ d := by
  obtain ⟨K2, r, h2, hr⟩ := keysL2 (a.map S63.f0 ++ b.map S63.f0 ++ c ++ d) (by simp; omega) (a.map S63.f0 ++ b.map S63.f0 ++ c ++ d).length [] ⟨List.Pairwise.nil, fun x hx => (by cases hx), fun x hx => .inr (fun y hy => (by cases hy))⟩ (by omega)
  have H1 : ∀ m k, k + m = b.length → ∃ K, eddyref11_keys.l1 K b c d (a.map S63.f0 ++ (b.take k).map S63.f0) (k : Int) = some r := by
    intro m
    induction m with
    | zero =>
      intro k hk
      refine ⟨K2 + 1, ?_⟩
      rw [eddyref11_keys.l1, if_neg (by omega), List.take_of_length_le (by omega), if_pos (by simp; omega)]
      show (if (a.map S63.f0 ++ b.map S63.f0 ++ c).length + d.length < 8796093022208 then _ else _) = _
      rw [if_pos (by simp; omega)]
      exact h2
    | succ m ih =>
      intro k hk
      obtain ⟨K, hK⟩ := ih (k + 1) (by omega)
      refine ⟨K + 1, ?_⟩
      rw [eddyref11_keys.l1, if_pos (by omega), if_pos (by omega), if_pos (by simp; omega), rd63_nat, wrap64_succ k (by omega), List.append_assoc]
      have e : (b.take k).map S63.f0 ++ [(b.getD k z63).f0] = (b.take (k + 1)).map S63.f0 := by rw [take_succ_getD b z63 k (by omega), List.map_append]; rfl
      rw [e]
      exact hK
  have H0 : ∀ m k, k + m = a.length → ∃ K, eddyref11_keys.l0 K a b c d ((a.take k).map S63.f0) (k : Int) = some r := by
    intro m
    induction m with
    | zero =>
      intro k hk
      obtain ⟨K, hK⟩ := H1 b.length 0 (by omega)
      refine ⟨K + 1, ?_⟩
      rw [eddyref11_keys.l0, if_neg (by omega), List.take_of_length_le (by omega)]
      rw [List.take_zero, List.map_nil, List.append_nil] at hK
      exact hK
    | succ m ih =>
      intro k hk
      obtain ⟨K, hK⟩ := ih (k + 1) (by omega)
      refine ⟨K + 1, ?_⟩
      rw [eddyref11_keys.l0, if_pos (by omega), if_pos (by omega), if_pos (by simp; omega), rd63_nat, wrap64_succ k (by omega)]
      have e : (a.take k).map S63.f0 ++ [(a.getD k z63).f0] = (a.take (k + 1)).map S63.f0 := by rw [take_succ_getD a z63 k (by omega), List.map_append]; rfl
      rw [e]
      exact hK
  obtain ⟨K, hK⟩ := H0 a.length 0 (by omega)
  refine ⟨K, r, by rw [eddyref11_keys.f]; exact hK, hr.ris, fun k => ?_⟩
  rw [hr.mem]
  unfold inC
  simp only [List.mem_append, List.mem_map]
  constructor
  · rintro (((h | h) | h) | h)
    · exact .inl h
    · exact .inr (.inl h)
    · exact .inr (.inr (.inl h))
    · exact .inr (.inr (.inr h))
  · rintro (h | h | h | h)
    · exact .inl (.inl (.inl h))
    · exact .inl (.inl (.inr h))
    · exact .inl (.inr h)
    · exact .inr h
end Go.Proofs.Ytpplnhefpcofoaa.PDeltaJoin
