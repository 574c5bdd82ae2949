/- Communications in one goroutine, in the walk's own words: a region with a send, a receive or a select in it. -/
import Derived.Conc.LoneSelect
import Derived.Orders
import Derived.WalkKit
import Derived.KernelRfl
namespace Go.Proofs.Ytcbaiplamaopeaa.PPostShots
open Go.RowKit Go.Conc
set_option linter.unusedVariables false
set_option linter.unusedSimpArgs false

/-- What stands between here and the region's end comes to Q. -/
def SemOps (P : Program) (ops : Array Oper) (Q : Exit → Act → World → Prop) (l : List Nat) (a : Act) (w : World) : Prop :=
  ∀ (b : Frame) (k : List Item) (cs : List Frame), ∃ e a' w', Q e a' w' ∧ Arrives P (lone (b.at a (.inRegion ops l :: k)) cs w) b k cs e a' w'
section
variable {P : Program} {ops : Array Oper} {Q : Exit → Act → World → Prop} {l rest : List Nat} {a : Act} {w w2 : World} {i : Nat} {o : Oper} {v : Value}
theorem sem_ops (h : wpOps P ops Q l a w) : SemOps P ops Q l a w := wp_ops l a w h
theorem sem_region {id : Nat} (h : SemOps P ops Q (List.range ops.size) a w) : (Code.region id ops false).wp P Q a w :=
  fun b k cs => let ⟨e, a', w', q, r⟩ := h b k cs; ⟨e, a', w', q, .of_steps (.one step_region) r⟩
theorem sem_region_draw {id : Nat} (h : ∀ t, SemOps P ops Q (Region.schedule (P.follows .mixedOrders) ops t) a { w with drawn := w.drawn + 1 }) : (Code.region id ops true).wp P Q a w :=
  fun b k cs => let ⟨e, a', w', q, r⟩ := h _ b k cs; ⟨e, a', w', q, .of_steps (.one step_region_draw) r⟩
theorem sem_end (h : Q .normal a w) : SemOps P ops Q [] a w := sem_ops h
theorem sem_step (ho : ops[i]? = some o)
    (hs : ∀ (b : Frame) (k : List Item) (cs : List Frame), step P (lone (b.at a (.inRegion ops (i :: rest) :: k)) cs w) = .next (lone ((b.at a (.inRegion ops (i :: rest) :: k)).finish v) cs w2))
    (h : SemOps P ops Q rest (a.put o.dst v) w2) : SemOps P ops Q (i :: rest) a w := by
  intro b k cs
  obtain ⟨e, a', w', q, r⟩ := h b k cs
  refine ⟨e, a', w', q, .of_steps (.one ?_) r⟩
  rw [hs b k cs, Frame.finish_at, ho]
  rfl
theorem sem_value (ho : ops[i]? = some o) (hw : Region.wanted o (yielded ops a.tmps) = true) (hr : (execOp a.eval o).run P w = .ok (.value v) w2)
    (h : SemOps P ops Q rest (a.put o.dst v) w2) : SemOps P ops Q (i :: rest) a w :=
  sem_step ho (fun b k cs => step_lone_go (by rw [stepG_op ho hw]; simp [stepG.apply, hr, Frame.finish, Frame.at, ho])) h
theorem sem_pure (ho : ops[i]? = some o) (hw : Region.wanted o (yielded ops a.tmps) = true) (hr : (execOp a.eval o).run P w = .ok (.value v) w)
    (h : SemOps P ops Q rest (a.put o.dst v) w) : SemOps P ops Q (i :: rest) a w := sem_value ho hw hr h
theorem stepG_comm' {b : Frame} {k : List Item} {cs : List Frame} {cases : Array CommCase} {blocking : Bool} {shape : CommShape} (ho : ops[i]? = some o) (hw : Region.wanted o (yielded ops a.tmps) = true)
    (hr : (execOp a.eval o).run P w = .ok (.comm cases blocking shape) w2) :
    ∃ es, stepG P true (G (b.at a (.inRegion ops (i :: rest) :: k)) cs) w = .comm (G (b.at a (.inRegion ops (i :: rest) :: k)) cs) cases blocking shape w2 es := by
  rw [stepG_oper ho hw]
  simp [stepG.apply, hr, G, Frame.at, GStep.after]
section
variable {c cap s r : Nat} {buf : Array Value} {z : Value} {tm closed : Bool}
theorem sem_send {x : Value} (ho : ops[i]? = some o) (hw : Region.wanted o (yielded ops a.tmps) = true) (hr : (execOp a.eval o).run P w = .ok (.comm #[scase c x z] true .send) w)
    (hc : w.heap[c]? = some (.chan cap buf false s r tm)) (hroom : buf.size < cap) (h : SemOps P ops Q rest (a.put o.dst undef) (w.setChan c cap (buf.push x) false (s + 1) r tm)) : SemOps P ops Q (i :: rest) a w :=
  sem_step ho (fun b k cs => by obtain ⟨es, he⟩ := stepG_comm' (b := b) (k := k) (cs := cs) (rest := rest) ho hw hr; exact step_lone_send_room he hc hroom) h
theorem sem_recv (ho : ops[i]? = some o) (hw : Region.wanted o (yielded ops a.tmps) = true) (hr : (execOp a.eval o).run P w = .ok (.comm #[rcase c z] true (.recv true)) w)
    (hc : w.heap[c]? = some (.chan cap buf closed s r tm)) (hsome : 0 < buf.size) (h : SemOps P ops Q rest (a.put o.dst (.tuple #[buf.getD 0 undef, .bool true])) (w.setChan c cap (buf.extract 1 buf.size) closed s (r + 1) tm)) : SemOps P ops Q (i :: rest) a w :=
  sem_step ho (fun b k cs => by obtain ⟨es, he⟩ := stepG_comm' (b := b) (k := k) (cs := cs) (rest := rest) ho hw hr; exact step_lone_recv_buf true he hc hsome) h
theorem sem_recv_shut (ho : ops[i]? = some o) (hw : Region.wanted o (yielded ops a.tmps) = true) (hr : (execOp a.eval o).run P w = .ok (.comm #[rcase c z] true (.recv true)) w)
    (hc : w.heap[c]? = some (.chan cap #[] true s r tm)) (h : SemOps P ops Q rest (a.put o.dst (.tuple #[z, .bool false])) w) : SemOps P ops Q (i :: rest) a w :=
  sem_step ho (fun b k cs => by obtain ⟨es, he⟩ := stepG_comm' (b := b) (k := k) (cs := cs) (rest := rest) ho hw hr; exact step_lone_recv_shut true he hc) h
theorem sem_sel_send {x : Value} (ho : ops[i]? = some o) (hw : Region.wanted o (yielded ops a.tmps) = true) (hr : (execOp a.eval o).run P w = .ok (.comm #[scase c x z] false .select) w)
    (hc : w.heap[c]? = some (.chan cap buf false s r tm)) (hroom : buf.size < cap) (h : SemOps P ops Q rest (a.put o.dst (.tuple #[goInt 0, .bool false])) (w.setChan c cap (buf.push x) false (s + 1) r tm)) : SemOps P ops Q (i :: rest) a w :=
  sem_step ho (fun b k cs => by obtain ⟨es, he⟩ := stepG_comm' (b := b) (k := k) (cs := cs) (rest := rest) ho hw hr; exact step_lone_select_send_room he hc hroom) h
theorem sem_sel_full {x : Value} (ho : ops[i]? = some o) (hw : Region.wanted o (yielded ops a.tmps) = true) (hr : (execOp a.eval o).run P w = .ok (.comm #[scase c x z] false .select) w)
    (hc : w.heap[c]? = some (.chan cap buf false s r tm)) (hfull : cap ≤ buf.size) (h : SemOps P ops Q rest (a.put o.dst (.tuple #[goInt (-1), .bool false])) w) : SemOps P ops Q (i :: rest) a w :=
  sem_step ho (fun b k cs => by obtain ⟨es, he⟩ := stepG_comm' (b := b) (k := k) (cs := cs) (rest := rest) ho hw hr; exact step_lone_select_send_full he hc hfull) h
theorem sem_sel_recv (ho : ops[i]? = some o) (hw : Region.wanted o (yielded ops a.tmps) = true) (hr : (execOp a.eval o).run P w = .ok (.comm #[rcase c z] false .select) w)
    (hc : w.heap[c]? = some (.chan cap buf closed s r tm)) (hsome : 0 < buf.size) (h : SemOps P ops Q rest (a.put o.dst (.tuple #[goInt 0, .bool true, buf.getD 0 undef])) (w.setChan c cap (buf.extract 1 buf.size) closed s (r + 1) tm)) : SemOps P ops Q (i :: rest) a w :=
  sem_step ho (fun b k cs => by obtain ⟨es, he⟩ := stepG_comm' (b := b) (k := k) (cs := cs) (rest := rest) ho hw hr; exact step_lone_select_recv_buf he hc hsome) h
theorem sem_sel_none (ho : ops[i]? = some o) (hw : Region.wanted o (yielded ops a.tmps) = true) (hr : (execOp a.eval o).run P w = .ok (.comm #[rcase c z] false .select) w)
    (hc : w.heap[c]? = some (.chan cap #[] false s r tm)) (h : SemOps P ops Q rest (a.put o.dst (.tuple #[goInt (-1), .bool false, z])) w) : SemOps P ops Q (i :: rest) a w :=
  sem_step ho (fun b k cs => by obtain ⟨es, he⟩ := stepG_comm' (b := b) (k := k) (cs := cs) (rest := rest) ho hw hr; exact step_lone_select_default he hc) h
theorem sem_sel_shut (ho : ops[i]? = some o) (hw : Region.wanted o (yielded ops a.tmps) = true) (hr : (execOp a.eval o).run P w = .ok (.comm #[rcase c z] false .select) w)
    (hc : w.heap[c]? = some (.chan cap #[] true s r tm)) (h : SemOps P ops Q rest (a.put o.dst (.tuple #[goInt 0, .bool false, z])) w) : SemOps P ops Q (i :: rest) a w :=
  sem_step ho (fun b k cs => by obtain ⟨es, he⟩ := stepG_comm' (b := b) (k := k) (cs := cs) (rest := rest) ho hw hr; exact step_lone_select_recv_shut he hc) h
end
/-- The region's other operations, behind its first. -/
theorem sem_rest {os : List Oper} {o : Oper} (h : wpList P (o :: os).toArray Q os a w) : SemOps P (o :: os).toArray Q (List.range' 1 os.length) a w :=
  sem_ops (by rw [wpOps_eq_wpList os 1 (fun j => by simp [Nat.add_comm 1 j])]; exact h)
theorem sem_first {id : Nat} {os : List Oper} {o : Oper} (h : SemOps P (o :: os).toArray Q (0 :: List.range' 1 os.length) a w) : (Code.region id (o :: os).toArray false).wp P Q a w :=
  sem_region (by rw [List.range_eq_range']; simpa [List.range'_succ] using h)
theorem sem_norm {a' : Act} (ha : a = a') (h : SemOps P ops Q l a' w) : SemOps P ops Q l a w := ha ▸ h
theorem list_norm {os : List Oper} {a' : Act} (ha : a = a') (h : wpList P ops Q os a' w) : wpList P ops Q os a w := ha ▸ h
end
/-- Every order that a region's edges allow. -/
def orders (md : Region.Mode) (ops : Array Oper) : Nat → Array Bool → List (List Nat)
  | 0, _ => [[]]
  | fuel + 1, listed => match Region.ready md ops listed with
    | [] => [[]]
    | rs => rs.flatMap fun i => (orders md ops fuel (listed.setIfInBounds i true)).map (i :: ·)
theorem mem_orders (md : Region.Mode) (ops : Array Oper) : ∀ (fuel t : Nat) (listed : Array Bool), Region.linearise.go md ops fuel t listed [] ∈ orders md ops fuel listed := by
  intro fuel
  induction fuel with
  | zero => intro t listed; simp [Region.linearise.go, orders]
  | succ fuel ih =>
    intro t listed
    simp only [Region.linearise.go]
    change (match (Region.ready md ops listed)[t % (Region.ready md ops listed).length]? with
      | some i => Region.linearise.go md ops fuel (t / (Region.ready md ops listed).length) (listed.setIfInBounds i true) [i]
      | none => [].reverse) ∈ _
    unfold orders
    cases hr : Region.ready md ops listed with
    | nil => simp
    | cons x xs =>
      simp only []
      have hlt : t % (x :: xs).length < (x :: xs).length := Nat.mod_lt _ (by simp)
      rw [List.getElem?_eq_getElem hlt]
      simp only []
      rw [linearise_go_acc, List.reverse_singleton, List.singleton_append]
      exact List.mem_flatMap.2 ⟨_, List.getElem_mem hlt, List.mem_map.2 ⟨_, ih _ _, rfl⟩⟩
theorem sem_orders {P : Program} {ops : Array Oper} {Q : Exit → Act → World → Prop} {a : Act} {w : World} {id : Nat} (L : List (List Nat)) (hm : P.follows .mixedOrders = true)
    (hL : orders .any ops ops.size (Array.replicate ops.size false) = L) (h : ∀ l ∈ L, SemOps P ops Q l a w.drew) : (Code.region id ops true).wp P Q a w :=
  sem_region_draw fun t => by
    simp only [Region.schedule, hm, Bool.true_or, if_true]
    exact h _ (hL ▸ mem_orders .any ops ops.size t _)
end Go.Proofs.Ytcbaiplamaopeaa.PPostShots
