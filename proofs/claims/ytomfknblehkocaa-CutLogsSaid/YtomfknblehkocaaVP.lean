/- The statement's view of a snapshot, plainly. -/
import Derived.Test.YtomfknblehkocaaRI
namespace Go.Proofs.Ytomfknblehkocaa.C
open Go.RowKit Go.Proofs.YtomfknblehkocaaW.PrintWords Go.Proofs.YtomfknblehkocaaW.PrintLast
set_option linter.unusedVariables false
set_option linter.unusedSimpArgs false
/-- What close does, cell by cell. -/
structure CloseIs (b b' : Bk) (p : Nat) (x : List S45) (s : S34) (y : List S45) : Prop where
  mode : b'.mode = b.mode
  back : b'.back = b.back
  now : b'.now = b.now
  given : b'.given = b.given
  ports : b'.ports = b.ports.set p 1
  logs : b'.logs = if b.mode = 3 then b.logs.set p (b.logs.getD p [] ++ x) else b.logs
  copied : b'.copied = (b.copied || b.mode != 1 || b'.shutB b.back)
  old : b.copied = true → b'.st = b.st ∧ b'.pend = b.pend
  new : b.copied = false → b'.copied = true → b'.st = s ∧ b'.pend = y
  keep : b.copied = false → b'.copied = false → b'.st = b.st ∧ b'.pend = b.pend
theorem close_is (b : Bk) (p : Nat) (x : List S45) (s : S34) (y : List S45) : CloseIs b (b.close p x s y) p x s y := by
  have hsh : ∀ b' : Bk, b'.ports = b.ports.set p 1 → b'.shutB b.back = (b.shutP p).shutB b.back := fun b' e => by unfold Bk.shutB; rw [e]; rfl
  by_cases hm : b.mode = 1
  · rcases hc : b.copied with _ | _
    · rcases hs : (b.shutP p).shutB b.back with _ | _
      · have e : b.close p x s y = b.shutP p := by unfold Bk.close; simp [hm, hc, hs]
        rw [e]
        exact ⟨rfl, rfl, rfl, rfl, rfl, by rw [hm]; rfl, by rw [hs]; show b.copied = _; rw [hc, hm]; rfl, fun h => (by rw [hc] at h; cases h), fun _ h => (by rw [show (b.shutP p).copied = b.copied from rfl, hc] at h; cases h), fun _ _ => ⟨rfl, rfl⟩⟩
      · have e : b.close p x s y = (b.shutP p).taken s y := by unfold Bk.close; simp [hm, hc, hs]
        rw [e]
        exact ⟨rfl, rfl, rfl, rfl, rfl, by rw [hm]; rfl, by rw [hsh ((b.shutP p).taken s y) rfl, hs]; simp [Bk.taken], fun h => (by rw [hc] at h; cases h), fun _ _ => ⟨rfl, rfl⟩, fun _ h => (by simp [Bk.taken, Bk.shutP, Bk.logged] at h)⟩
    · have e : b.close p x s y = b.shutP p := by unfold Bk.close; simp [hm, hc]
      rw [e]
      exact ⟨rfl, rfl, rfl, rfl, rfl, by rw [hm]; rfl, by show b.copied = _; rw [hc]; rfl, fun _ => ⟨rfl, rfl⟩, fun h => (by rw [hc] at h; cases h), fun h => (by rw [hc] at h; cases h)⟩
  · have hm' : (b.mode != 1) = true := by simp [hm]
    rcases hc : b.copied with _ | _
    · by_cases h3 : b.mode = 3
      · have e : b.close p x s y = ((b.taken s y).logged p x).shutP p := by unfold Bk.close; simp [h3, hc]
        rw [e]
        exact ⟨rfl, rfl, rfl, rfl, rfl, by rw [if_pos h3]; rfl, by rw [hm']; simp [Bk.shutP, Bk.logged, Bk.taken], fun h => (by rw [hc] at h; cases h), fun _ _ => ⟨rfl, rfl⟩, fun _ h => (by simp [Bk.taken, Bk.shutP, Bk.logged] at h)⟩
      · have e : b.close p x s y = (b.taken s y).shutP p := by unfold Bk.close; simp [hm, h3, hc]
        rw [e]
        exact ⟨rfl, rfl, rfl, rfl, rfl, by rw [if_neg h3]; rfl, by rw [hm']; simp [Bk.shutP, Bk.taken], fun h => (by rw [hc] at h; cases h), fun _ _ => ⟨rfl, rfl⟩, fun _ h => (by simp [Bk.taken, Bk.shutP, Bk.logged] at h)⟩
    · by_cases h3 : b.mode = 3
      · have e : b.close p x s y = (b.logged p x).shutP p := by unfold Bk.close; simp [h3, hc]
        rw [e]
        exact ⟨rfl, rfl, rfl, rfl, rfl, by rw [if_pos h3]; rfl, by show b.copied = _; rw [hc]; rfl, fun _ => ⟨rfl, rfl⟩, fun h => (by rw [hc] at h; cases h), fun h => (by rw [hc] at h; cases h)⟩
      · have e : b.close p x s y = b.shutP p := by unfold Bk.close; simp [hm, h3, hc]
        rw [e]
        exact ⟨rfl, rfl, rfl, rfl, rfl, by rw [if_neg h3]; rfl, by show b.copied = _; rw [hc]; rfl, fun _ => ⟨rfl, rfl⟩, fun h => (by rw [hc] at h; cases h), fun h => (by rw [hc] at h; cases h)⟩

/-- What the statement has seen of a snapshot. -/
structure Vw where
  id : Int
  copied : Bool
  st : S34
  pend : List S45
  closed : List Bool
  logs : List (List S45)
  handed : Bool
def Vw.fresh (id : Int) : Vw := ⟨id, false, ⟨0, []⟩, [], [false, false, false, false], [[], [], [], []], false⟩
def Vw.shut (v : Vw) (p : Nat) : Bool := v.closed.getD p false
def Vw.skips (v : Vw) (port id : Int) : Bool := decide (id < v.id) || (id == v.id && v.shut port.toNat)
def Vw.begun (v : Vw) (id : Int) : Vw := if v.id < id then Vw.fresh id else v
def Vw.told (v : Vw) (c : Bool) (s : S34) (y : List S45) : Vw := if c = true then ⟨v.id, true, s, y, v.closed, v.logs, v.handed⟩ else v
def Vw.close (v : Vw) (p : Nat) : Vw := ⟨v.id, v.copied, v.st, v.pend, v.closed.set p true, v.logs, v.handed⟩
def Vw.logged (v : Vw) (p : Nat) (x : List S45) : Vw := ⟨v.id, v.copied, v.st, v.pend, v.closed, v.logs.set p (v.logs.getD p [] ++ x), v.handed⟩
def Vw.sees (v : Vw) (port id : Int) (x : List S45) (s : S34) (y : List S45) (c : Bool) (mode : Int) : Vw :=
  if v.skips port id = true then v else if mode = 3 then (((v.begun id).told c s y).close port.toNat).logged port.toNat x else ((v.begun id).told c s y).close port.toNat
def Vw.whole (v : Vw) (n : Nat) : Bool := ((List.range n).all fun p => v.shut p) && v.copied
def Vw.copies (v : Vw) (port id mode : Int) (n : Nat) (back : Int) : Bool :=
  if id < v.id ∨ (id = v.id ∧ (v.copied = true ∨ v.shut port.toNat = true)) then false else if mode ≠ 1 then true else
  (List.range n).all fun p => (p : Int) == back || ((p : Int) == port || (id == v.id && v.shut p))
structure VR (b : Bk) (v : Vw) (mode back : Int) (n : Nat) : Prop where
  bm : b.mode = mode
  bb : b.back = back
  bn : b.ports.length = n
  bl : b.logs.length = n
  n4 : n ≤ 4
  n0 : 0 ≤ b.now
  id : v.id = b.now
  cp : v.copied = b.copied
  pv : ∀ p : Nat, p < n → b.ports.getD p 0 = if v.shut p = true then 1 else 0
  hd : v.handed = b.given
  gc : b.given = true → b.copied = true ∧ ∀ p : Nat, p < n → v.shut p = true
  st : b.given = false → v.st = b.st ∧ v.pend = b.pend
  lg : b.given = false → ∀ p : Nat, p < n → v.logs.getD p [] = b.logs.getD p []
  cl : v.closed.length = 4
  ll : v.logs.length = 4
  al : mode = 1 → b.copied = b.shutB back
theorem getD_rep {α : Type} (z : α) (m p : Nat) : (List.replicate m z).getD p z = z := by
  rw [List.getD_eq_getElem?_getD, List.getElem?_replicate]
  split <;> rfl
theorem shut_fresh (id : Int) (p : Nat) : (Vw.fresh id).shut p = false := by
  unfold Vw.shut Vw.fresh
  match p with
  | 0 => rfl
  | 1 => rfl
  | 2 => rfl
  | 3 => rfl
  | n + 4 => rfl
theorem logs_fresh (id : Int) (p : Nat) : (Vw.fresh id).logs.getD p [] = [] := by
  unfold Vw.fresh
  match p with
  | 0 => rfl
  | 1 => rfl
  | 2 => rfl
  | 3 => rfl
  | n + 4 => rfl
theorem VR.fresh {mode back : Int} {n : Nat} (b : Bk) (id : Int) (h1 : b.mode = mode) (h2 : b.back = back) (h3 : b.ports.length = n) (h4 : n ≤ 4) (hid : 0 ≤ id) (hn : 1 ≤ n) (hlo : -1 ≤ back) (hbn : ¬ (back = 0 ∧ n = 1)) : VR (b.freshed id) (Vw.fresh id) mode back n := by
  have hp : ∀ p : Nat, (b.freshed id).ports.getD p 0 = 0 := fun p => getD_rep _ _ _
  have hlen : (b.freshed id).ports.length = n := by unfold Bk.freshed; simp only [List.length_replicate]; exact h3
  refine ⟨h1, h2, hlen, by unfold Bk.freshed; simp only [List.length_replicate]; exact h3, h4, hid, rfl, rfl, fun p _ => ?_, rfl, fun e => (by cases e), fun _ => ⟨rfl, rfl⟩, fun _ p _ => ?_, rfl, rfl, fun hm => ?_⟩
  · rw [hp, shut_fresh]; rfl
  · rw [logs_fresh]; exact (getD_rep _ _ _).symm
  · by_cases h2 : back = 0
    · exact (Bk.shutB_false 1 (by rw [hlen]; omega) (hp 1) (by omega)).symm
    · exact (Bk.shutB_false 0 (by rw [hlen]; omega) (hp 0) (by omega)).symm
theorem VR.new {mode back : Int} {n : Nat} (h4 : n ≤ 4) (hn : 1 ≤ n) (hlo : -1 ≤ back) (hbn : ¬ (back = 0 ∧ n = 1)) : VR (Bk.new mode n back) (Vw.fresh 0) mode back n := by
  have h := VR.fresh (Bk.new mode n back) 0 rfl rfl (by unfold Bk.new; simp) h4 (Int.le_refl 0) hn hlo hbn
  rw [show (Bk.new mode n back).freshed 0 = Bk.new mode n back by unfold Bk.freshed Bk.new; simp] at h
  exact h
section
variable {b : Bk} {v : Vw} {mode back : Int} {n : Nat}
def there (n : Nat) (port : Int) : Bool := decide (0 ≤ port) && decide (port < n)
theorem VR.knows (h : VR b v mode back n) (port : Int) : b.knows port = there n port := by unfold Bk.knows there; rw [h.bn]
def Vw.held (v : Vw) (port mode : Int) (n : Nat) : Bool := there n port && mode == 1 && decide (0 < v.id) && !v.copied && v.shut port.toNat
theorem VR.held (h : VR b v mode back n) (port : Int) : b.held port = v.held port mode n := by
  unfold Bk.held Vw.held
  rw [h.knows, h.bm, h.id, h.cp]
  by_cases hk : there n port = true
  · have h2 : port.toNat < n := by unfold there at hk; simp at hk; omega
    have := h.pv port.toNat h2
    rw [this]
    by_cases hs : v.shut port.toNat = true
    · rw [if_pos hs, hs]; rfl
    · rw [if_neg hs]
      simp only [Bool.not_eq_true] at hs
      rw [hs]
      rfl
  · simp [hk]
theorem VR.took (h : VR b v mode back n) (port : Int) (x : S45) : VR (b.took port x) (if b.tookE port = 0 ∧ v.copied = true ∧ v.shut port.toNat = false then v.logged port.toNat [x] else v) mode back n := by
  by_cases hc : b.tookE port = 0 ∧ v.copied = true ∧ v.shut port.toNat = false
  · obtain ⟨h0, h1, h2⟩ := hc
    have hk : there n port = true := by
      rw [← h.knows]
      unfold Bk.tookE at h0
      split at h0
      · omega
      · rename_i h3; simpa using h3
    have hp : port.toNat < n := by unfold there at hk; simp at hk; omega
    have hpt := h.pv _ hp
    rw [h2] at hpt
    rw [if_pos ⟨h0, h1, h2⟩, show b.took port x = b.logged port.toNat [x] by unfold Bk.took; rw [h0, ← h.cp, h1, hpt]; rfl]
    have hg : b.given = false := by
      rcases hg : b.given with _ | _
      · rfl
      · have := (h.gc hg).2 _ hp; rw [h2] at this; cases this
    refine ⟨h.bm, h.bb, h.bn, by show (b.logs.set _ _).length = n; rw [List.length_set]; exact h.bl, h.n4, h.n0, h.id, h.cp, h.pv, h.hd, h.gc, h.st, fun _ p hp' => ?_, h.cl, by show (v.logs.set _ _).length = 4; rw [List.length_set]; exact h.ll, h.al⟩
    show (v.logs.set port.toNat (v.logs.getD port.toNat [] ++ [x])).getD p [] = (b.logs.set port.toNat (b.logs.getD port.toNat [] ++ [x])).getD p []
    by_cases e : p = port.toNat
    · subst e
      rw [getD_set_eq _ _ _ _ (by have := h.ll; have := h.n4; omega), getD_set_eq _ _ _ _ (by rw [h.bl]; exact hp), h.lg hg _ hp]
    · rw [getD_set_ne _ _ _ _ _ e, getD_set_ne _ _ _ _ _ e]
      exact h.lg hg p hp'
  · rw [if_neg hc]
    rw [show b.took port x = b by
      unfold Bk.took
      rw [if_neg]
      intro e
      simp only [Bool.and_eq_true, beq_iff_eq] at e
      obtain ⟨⟨e1, e2⟩, e3⟩ := e
      have hk : there n port = true := by
        rw [← h.knows]
        unfold Bk.tookE at e1
        split at e1
        · omega
        · rename_i h3; simpa using h3
      have hp : port.toNat < n := by unfold there at hk; simp at hk; omega
      refine hc ⟨e1, by rw [h.cp]; exact e2, ?_⟩
      have := h.pv _ hp
      rw [e3] at this
      by_cases hs : v.shut port.toNat = true
      · rw [if_pos hs] at this; omega
      · simpa using hs]
    exact h
theorem shut_close (v : Vw) (q p : Nat) (hq : q < v.closed.length) : (v.close q).shut p = if p = q then true else v.shut p := by
  unfold Vw.shut Vw.close
  show (v.closed.set q true).getD p false = _
  by_cases e : p = q
  · subst e; rw [getD_set_eq _ _ _ _ hq, if_pos rfl]
  · rw [getD_set_ne _ _ _ _ _ e, if_neg e]
/-- A port is closed by a marker. -/
theorem VR.close (h : VR b v mode back n) {q : Nat} (hq : q < n) (hop : v.shut q = false) (x : List S45) (s : S34) (y : List S45) :
    VR (b.close q x s y) (if mode = 3 then ((v.told ((b.close q x s y).copied && !b.copied) s y).close q).logged q x else (v.told ((b.close q x s y).copied && !b.copied) s y).close q) mode back n := by
  have hI := close_is b q x s y
  generalize b.close q x s y = b' at *
  obtain ⟨c, hc⟩ : ∃ c, c = (b'.copied && !b.copied) := ⟨_, rfl⟩
  rw [← hc]
  have hg : b.given = false := by
    rcases hg : b.given with _ | _
    · rfl
    · have := (h.gc hg).2 _ hq; rw [hop] at this; cases this
  have hq4 : q < v.closed.length := by have := h.cl; have := h.n4; omega
  have ht : ∀ p, ((v.told c s y).close q).shut p = if p = q then true else v.shut p := fun p => by
    have h1 : (v.told c s y).closed = v.closed := by unfold Vw.told; split <;> rfl
    rw [shut_close _ _ _ (by rw [h1]; exact hq4)]
    unfold Vw.shut
    rw [h1]
  have hcopy : (v.told c s y).copied = b'.copied := by
    unfold Vw.told
    rcases hb : b.copied with _ | _
    · rcases hb' : b'.copied with _ | _
      · rw [hb, hb'] at hc; rw [hc]; exact h.cp.trans hb
      · rw [hb, hb'] at hc; rw [hc]; rfl
    · rw [hb] at hc
      have hb' : b'.copied = true := by rw [hI.copied, hb]; rfl
      rw [hb'] at hc
      rw [hc, hb']
      exact h.cp.trans hb
  have hst : (v.told c s y).st = b'.st ∧ (v.told c s y).pend = b'.pend := by
    obtain ⟨e1, e2⟩ := h.st hg
    unfold Vw.told
    rcases hb : b.copied with _ | _
    · rcases hb' : b'.copied with _ | _
      · rw [hb, hb'] at hc
        rw [hc]
        have := hI.keep hb hb'
        exact ⟨e1.trans this.1.symm, e2.trans this.2.symm⟩
      · rw [hb, hb'] at hc
        rw [hc]
        obtain ⟨e3, e4⟩ := hI.new hb hb'
        exact ⟨e3.symm, e4.symm⟩
    · rw [hb] at hc
      simp only [Bool.not_true, Bool.and_false] at hc
      rw [hc]
      obtain ⟨e3, e4⟩ := hI.old hb
      exact ⟨e1.trans e3.symm, e2.trans e4.symm⟩
  have hlogs : (v.told c s y).logs = v.logs := by unfold Vw.told; split <;> rfl
  have hclosed : ((v.told c s y).close q).closed.length = 4 := by
    show ((v.told c s y).closed.set q true).length = 4
    rw [List.length_set]
    unfold Vw.told
    split <;> exact h.cl
  have hid : (v.told c s y).id = b'.now := by rw [hI.now, ← h.id]; unfold Vw.told; split <;> rfl
  have hhd : (v.told c s y).handed = b'.given := by rw [hI.given, ← h.hd]; unfold Vw.told; split <;> rfl
  have hpt : ∀ p : Nat, p < n → b'.ports.getD p 0 = if (if p = q then true else v.shut p) = true then 1 else 0 := fun p hp => by
    rw [hI.ports]
    by_cases e : p = q
    · subst e; rw [getD_set_eq _ _ _ _ (by rw [h.bn]; exact hp), if_pos rfl]; rfl
    · rw [getD_set_ne _ _ _ _ _ e, if_neg e]; exact h.pv p hp
  have hlen : b'.ports.length = n := by rw [hI.ports, List.length_set]; exact h.bn
  have hal : mode = 1 → b'.copied = b'.shutB back := fun hm => by
    rw [hI.copied, h.bb, show (b.mode != 1) = false by rw [h.bm, hm]; rfl, h.al hm]
    rcases hs : b.shutB back with _ | _
    · rfl
    · have : b'.shutB back = true := Bk.shutB_true fun i hi h0 => by
        rw [hlen] at hi
        by_cases e : (i : Int) = back
        · exact e
        · have h1 := hpt i hi
          rw [h0] at h1
          by_cases e2 : i = q
          · rw [if_pos e2] at h1; simp at h1
          · rw [if_neg e2] at h1
            have h2 := h.pv i hi
            rw [← h1] at h2
            rw [Bk.shutB_false i (by rw [h.bn]; exact hi) h2 e] at hs
            cases hs
      rw [this]; rfl
  have hb3 : b.mode = mode := h.bm
  by_cases hm : mode = 3
  · rw [if_pos hm]
    refine ⟨hI.mode.trans h.bm, hI.back.trans h.bb, hlen, (by rw [hI.logs]; split; rw [List.length_set]; exact h.bl; exact h.bl), h.n4, by rw [hI.now]; exact h.n0, hid, hcopy, fun p hp => by show _ = if ((v.told c s y).close q).shut p = true then 1 else 0; rw [ht]; exact hpt p hp, hhd, fun e => (by rw [hI.given, hg] at e; cases e), fun _ => hst, fun _ p hp => ?_, hclosed, by show ((v.told c s y).logs.set q _).length = 4; rw [List.length_set, hlogs]; exact h.ll, hal⟩
    show ((v.told c s y).logs.set q ((v.told c s y).logs.getD q [] ++ x)).getD p [] = b'.logs.getD p []
    rw [hI.logs, hb3, if_pos hm, hlogs]
    by_cases e : p = q
    · subst e
      rw [getD_set_eq _ _ _ _ (by have := h.ll; have := h.n4; omega), getD_set_eq _ _ _ _ (by rw [h.bl]; exact hp), h.lg hg _ hp]
    · rw [getD_set_ne _ _ _ _ _ e, getD_set_ne _ _ _ _ _ e]
      exact h.lg hg p hp
  · rw [if_neg hm]
    refine ⟨hI.mode.trans h.bm, hI.back.trans h.bb, hlen, (by rw [hI.logs]; split; rw [List.length_set]; exact h.bl; exact h.bl), h.n4, by rw [hI.now]; exact h.n0, hid, hcopy, fun p hp => by rw [ht]; exact hpt p hp, hhd, fun e => (by rw [hI.given, hg] at e; cases e), fun _ => hst, fun _ p hp => ?_, hclosed, by show (v.told c s y).logs.length = 4; rw [hlogs]; exact h.ll, hal⟩
    show (v.told c s y).logs.getD p [] = b'.logs.getD p []
    rw [hI.logs, hb3, if_neg hm, hlogs]
    exact h.lg hg p hp
theorem VR.skips (h : VR b v mode back n) {port id : Int} (h0 : b.markE port id = 0) : b.closes port id = !v.skips port id ∧ there n port = true ∧ 1 ≤ id := by
  have hk : there n port = true := by
    rw [← h.knows]
    unfold Bk.markE at h0
    split at h0
    · omega
    · rename_i h1; simpa using h1
  have hid : 1 ≤ id := by
    unfold Bk.markE at h0
    split at h0
    · omega
    · split at h0 <;> omega
  have hp : port.toNat < n := by unfold there at hk; simp at hk; omega
  refine ⟨?_, hk, hid⟩
  unfold Bk.closes Vw.skips
  rw [h0, h.id]
  by_cases hlt : b.now < id
  · have e1 : (b.begun id).ports.getD port.toNat 0 = 0 := by unfold Bk.begun; rw [if_pos hlt]; exact getD_rep _ _ _
    rw [e1, decide_eq_false (by omega : ¬ id < b.now), beq_false_of_ne (by omega : id ≠ b.now)]
    rfl
  · by_cases he : id = b.now
    · have e1 : (b.begun id).ports.getD port.toNat 0 = if v.shut port.toNat = true then 1 else 0 := by unfold Bk.begun; rw [if_neg hlt]; exact h.pv _ hp
      rw [e1, decide_eq_false (by omega : ¬ id < b.now), he]
      by_cases hs : v.shut port.toNat = true
      · rw [if_pos hs, hs]; simp
      · simp only [Bool.not_eq_true] at hs
        rw [hs]; simp
    · rw [decide_eq_true (by omega : id < b.now)]; rfl
theorem VR.begun (h : VR b v mode back n) (hn : 1 ≤ n) (hlo : -1 ≤ back) (hbn : ¬ (back = 0 ∧ n = 1)) (id : Int) (hid : 1 ≤ id) : VR (b.begun id) (v.begun id) mode back n := by
  unfold Bk.begun Vw.begun
  rw [h.id]
  by_cases hlt : b.now < id
  · rw [if_pos hlt, if_pos hlt]
    exact VR.fresh b id h.bm h.bb h.bn h.n4 (by omega) hn hlo hbn
  · rw [if_neg hlt, if_neg hlt]
    exact h
theorem VR.mark (h : VR b v mode back n) (hn : 1 ≤ n) (hlo : -1 ≤ back) (hbn : ¬ (back = 0 ∧ n = 1)) (port id : Int) (x : List S45) (s : S34) (y : List S45) (h0 : b.markE port id = 0) :
    VR (b.mark port id x s y) (v.sees port id x s y (b.markC port id x s y) mode) mode back n := by
  obtain ⟨h1, hk, hid⟩ := h.skips h0
  have hp : port.toNat < n := by unfold there at hk; simp at hk; omega
  unfold Vw.sees
  rcases hs : v.skips port id with _ | _
  · rw [hs] at h1
    have hM : b.mark port id x s y = (b.begun id).close port.toNat x s y := by unfold Bk.mark; rw [if_pos (show b.closes port id = true by rw [h1]; rfl)]
    have hC : b.markC port id x s y = (((b.begun id).close port.toNat x s y).copied && !(b.begun id).copied) := by unfold Bk.markC; rw [h1, hM]; simp
    rw [hM, hC, if_neg (by simp)]
    have hv : (v.begun id).shut port.toNat = false := by
      unfold Vw.begun
      by_cases hlt : v.id < id
      · rw [if_pos hlt, shut_fresh]
      · rw [if_neg hlt]
        unfold Vw.skips at hs
        simp only [Bool.or_eq_false_iff, decide_eq_false_iff_not, Bool.and_eq_false_iff, beq_eq_false_iff_ne] at hs
        rcases hs.2 with h2 | h2
        · omega
        · exact h2
    exact (h.begun hn hlo hbn id hid).close hp hv x s y
  · rw [hs] at h1
    rw [show b.mark port id x s y = b by unfold Bk.mark; rw [if_neg (by rw [h1]; simp)], if_pos rfl]
    exact h
theorem mark_bad {b : Bk} {port id : Int} (h0 : b.markE port id ≠ 0) (x : List S45) (s : S34) (y : List S45) : b.mark port id x s y = b ∧ b.markC port id x s y = false := by
  have e1 : b.closes port id = false := by unfold Bk.closes; rw [beq_false_of_ne h0]; rfl
  exact ⟨by unfold Bk.mark; rw [if_neg (by rw [e1]; simp)], by unfold Bk.markC; rw [e1]; rfl⟩
theorem VR.copies (h : VR b v mode back n) (hn : 1 ≤ n) (hlo : -1 ≤ back) (hbn : ¬ (back = 0 ∧ n = 1)) (port id : Int) (x : List S45) (s : S34) (y : List S45) (h0 : b.markE port id = 0) :
    b.markC port id x s y = v.copies port id mode n back := by
  obtain ⟨h1, hk, hid⟩ := h.skips h0
  have hp : port.toNat < n := by unfold there at hk; simp at hk; omega
  have hpp : ((port.toNat : Nat) : Int) = port := by unfold there at hk; simp at hk; omega
  unfold Vw.copies
  rcases hs : v.skips port id with _ | _
  rotate_left
  · rw [hs] at h1
    unfold Bk.markC
    rw [h1, if_pos]
    · rfl
    · unfold Vw.skips at hs
      simp only [Bool.or_eq_true, decide_eq_true_eq, Bool.and_eq_true, beq_iff_eq] at hs
      rcases hs with h2 | ⟨h2, h3⟩
      · exact .inl h2
      · exact .inr ⟨h2, .inr h3⟩
  rw [hs] at h1
  unfold Vw.skips at hs
  simp only [Bool.or_eq_false_iff, decide_eq_false_iff_not, Bool.and_eq_false_iff, beq_eq_false_iff_ne] at hs
  have hB := h.begun hn hlo hbn id hid
  have hM : b.mark port id x s y = (b.begun id).close port.toNat x s y := by unfold Bk.mark; rw [if_pos (show b.closes port id = true by rw [h1]; rfl)]
  have hC : b.markC port id x s y = (((b.begun id).close port.toNat x s y).copied && !(b.begun id).copied) := by unfold Bk.markC; rw [h1, hM]; simp
  have hI := close_is (b.begun id) port.toNat x s y
  rw [hC]
  have hcb : (b.begun id).copied = (if id = v.id then v.copied else false) := by
    rw [← hB.cp]
    unfold Vw.begun
    by_cases e : id = v.id
    · rw [if_pos e, if_neg (by omega)]
    · rw [if_neg e, if_pos (by omega)]; rfl
  by_cases hcc : id = v.id ∧ v.copied = true
  · rw [if_pos (.inr ⟨hcc.1, .inl hcc.2⟩), hcb, if_pos hcc.1, hcc.2]; simp
  · have hc0 : (b.begun id).copied = false := by
      rw [hcb]
      by_cases e : id = v.id
      · rw [if_pos e]
        rcases hv : v.copied with _ | _
        · rfl
        · exact absurd ⟨e, hv⟩ hcc
      · rw [if_neg e]
    rw [if_neg (by
      rintro (e | ⟨e1, e2 | e2⟩)
      · exact hs.1 e
      · exact hcc ⟨e1, e2⟩
      · rcases hs.2 with e3 | e3
        · exact e3 e1
        · rw [e3] at e2; cases e2), hI.copied, hc0, hB.bm, hB.bb]
    by_cases hm : mode = 1
    · rw [if_neg (by omega), hm]
      simp only [bne_self_eq_false, Bool.false_or, Bool.not_false, Bool.and_true]
      rw [Bool.eq_iff_iff, List.all_eq_true]
      have hlen : ((b.begun id).close port.toNat x s y).ports.length = n := by rw [hI.ports, List.length_set]; exact hB.bn
      have hsh : ∀ p : Nat, p < n → ((b.begun id).close port.toNat x s y).ports.getD p 0 = if (p : Int) = port ∨ (id = v.id ∧ v.shut p = true) then 1 else 0 := fun p hp' => by
        rw [hI.ports]
        by_cases e : p = port.toNat
        · rw [e, getD_set_eq _ _ _ _ (by rw [hB.bn]; exact hp), if_pos (.inl hpp)]
        · have hvb : (v.begun id).shut p = if id = v.id then v.shut p else false := by
            unfold Vw.begun
            by_cases e : id = v.id
            · rw [if_pos e, if_neg (by omega : ¬ v.id < id)]
            · rw [if_neg e, if_pos (by omega : v.id < id), shut_fresh]
          rw [getD_set_ne _ _ _ _ _ e, hB.pv p hp', hvb]
          by_cases e2 : id = v.id
          · rw [if_pos e2]
            by_cases e3 : v.shut p = true
            · rw [if_pos e3, if_pos (.inr ⟨e2, e3⟩)]
            · rw [if_neg e3, if_neg (by rintro (e4 | e4); omega; exact e3 e4.2)]
          · rw [if_neg e2, if_neg (show ¬ ((p : Int) = port ∨ id = v.id ∧ v.shut p = true) by rintro (e4 | e4); omega; exact e2 e4.1)]; rfl
      constructor
      · intro hs2 p hp'
        have hp2 := List.mem_range.1 hp'
        simp only [Bool.or_eq_true, beq_iff_eq, Bool.and_eq_true]
        by_cases e : (p : Int) = back
        · exact .inl e
        · right
          by_cases e2 : (p : Int) = port ∨ (id = v.id ∧ v.shut p = true)
          · rcases e2 with e2 | ⟨e2, e3⟩
            · exact .inl e2
            · exact .inr ⟨e2, e3⟩
          · have h2 := hsh p hp2
            rw [if_neg e2] at h2
            rw [Bk.shutB_false p (by rw [hlen]; exact hp2) h2 e] at hs2
            cases hs2
      · intro hs2
        refine Bk.shutB_true (fun i hi h2 => ?_)
        rw [hlen] at hi
        have h3 := hs2 i (List.mem_range.2 hi)
        simp only [Bool.or_eq_true, beq_iff_eq, Bool.and_eq_true] at h3
        rcases h3 with h3 | h3
        · exact h3
        · have h4 := hsh i hi
          rw [if_pos (by rcases h3 with h3 | h3; exact .inl h3; exact .inr h3)] at h4
          omega
    · rw [if_pos hm, show (mode != 1) = true by simp [hm]]; rfl
theorem VR.ready (h : VR b v mode back n) : b.ready = (v.whole n && !v.handed) := by
  unfold Bk.ready Vw.whole
  rw [h.hd, h.cp]
  have : b.shutB (-1) = (List.range n).all fun p => v.shut p := by
    rw [Bool.eq_iff_iff, List.all_eq_true]
    constructor
    · intro hs p hp
      have hp' := List.mem_range.1 hp
      by_cases e : v.shut p = true
      · exact e
      · have h1 := h.pv p hp'
        rw [if_neg e] at h1
        rw [Bk.shutB_false p (by rw [h.bn]; exact hp') h1 (by omega)] at hs
        cases hs
    · intro hs
      refine Bk.shutB_true (fun i hi h0 => ?_)
      rw [h.bn] at hi
      have h1 := h.pv i hi
      rw [if_pos (hs i (List.mem_range.2 hi))] at h1
      omega
  rw [this]
  cases b.copied <;> cases b.given <;> simp
def Vw.give (v : Vw) : Vw := ⟨v.id, v.copied, v.st, v.pend, v.closed, v.logs, true⟩
theorem VR.part (h : VR b v mode back n) (hr : b.ready = true) : v.st = b.st ∧ v.pend = b.pend ∧ b.logs.length = n ∧ (∀ p : Nat, p < n → v.logs.getD p [] = b.logs.getD p []) ∧ v.id = b.now ∧ VR b.handed v.give mode back n := by
  have hr' := hr
  rw [h.ready] at hr'
  unfold Vw.whole at hr'
  simp only [Bool.and_eq_true, Bool.not_eq_true', List.all_eq_true] at hr'
  obtain ⟨⟨hall, hc⟩, hh⟩ := hr'
  have hg : b.given = false := by rw [← h.hd]; exact hh
  obtain ⟨h1, h2⟩ := h.st hg
  exact ⟨h1, h2, h.bl, h.lg hg, h.id, ⟨h.bm, h.bb, h.bn, by unfold Bk.handed; simp only [List.length_replicate]; exact h.bn, h.n4, h.n0, h.id, h.cp, h.pv, rfl, fun _ => ⟨by rw [show b.handed.copied = b.copied from rfl, ← h.cp]; exact hc, fun p hp => hall p (List.mem_range.2 hp)⟩, fun e => (by cases e), fun e => (by cases e), h.cl, h.ll, h.al⟩⟩
end
end Go.Proofs.Ytomfknblehkocaa.C
