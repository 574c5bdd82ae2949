/- delta.Apply. -/
import Derived.Test.YtpplnhefpcofoaaRH
namespace Go.Proofs.Ytpplnhefpcofoaa.PDeltaJoin
open Go.RowKit Go.Proofs.YtpplnhefpcofoaaW.PrintWords Go.Proofs.YtpplnhefpcofoaaW.PrintLast
set_option linter.unusedVariables false
set_option linter.unusedSimpArgs false

def appKeep (gone : List ByteArray) (p : MPC) : Option S63 := if p.isR = true then some p.r else if fG gone p.l.f0 = 1 then none else some p.l
def appCells (gone : List ByteArray) (ps : List MPC) : List S63 := ps.filterMap (appKeep gone)
def appFound (gone : List ByteArray) (ps : List MPC) : Nat := (ps.filter fun p => !p.isR && decide (fG gone p.l.f0 = 1)).length
/-- What Apply answers: the state's number and cells, the error. -/
def applyP (num : Int) (cells : List S63) (dnum : Int) (set : List S63) (gone : List ByteArray) : Int × List S63 × Int :=
  if chkS num cells ≠ 0 then (0, [], chkS num cells) else if chkD dnum set gone ≠ 0 then (0, [], chkD dnum set gone)
  else if appFound gone (mrgC cells set) < gone.length then (0, [], 110) else if 64 < (appCells gone (mrgC cells set)).length then (0, [], 111) else (dnum, appCells gone (mrgC cells set), 0)
def ApplyAns (r : Int × List S63 × Int) (w : World) (e : Ending) (w' : World) : Prop :=
  ∃ v, e = .returned (.tuple #[.agg #[.int .i64 r.1, v], .int .i64 r.2.2]) ∧ Hid (Kd.R k63 63 w' w.heap.size (fun _ => True) v r.2.1) ∧ Hid (Below w.heap.size w w')
theorem chkGone_keys (f : ByteArray → Int) : ∀ (l : List ByteArray) (p : Option ByteArray), chkGone f p l = 0 → ∀ k ∈ l, k.size ≤ 12
  | [], _, _, k, hk => by cases hk
  | d :: ds, p, h, k, hk => by
    rw [chkGone] at h
    split at h
    · simp at h
    · split at h
      · simp at h
      · rcases List.mem_cons.1 hk with rfl | hk
        · omega
        · exact chkGone_keys f ds _ h k hk
theorem chkD_ok {num : Int} {set : List S63} {gone : List ByteArray} (h : chkD num set gone = 0) : chkS num set = 0 ∧ gone.length ≤ 64 ∧ ∀ k ∈ gone, k.size ≤ 12 := by
  unfold chkD at h
  split at h
  · rename_i h1; exact absurd h h1
  · rename_i h1
    split at h
    · simp at h
    · exact ⟨by simpa using h1, by omega, chkGone_keys _ _ _ h⟩
/-- What has come, plainly. -/
def plC {w0 : World} {a b : List S63} (xs : List {x : PVC w0 // x.p ∈ mrgC a b}) : List MPC := xs.map (fun x => x.1.p)
theorem plC_snoc {w0 : World} {a b : List S63} (xs : List {x : PVC w0 // x.p ∈ mrgC a b}) (x : {x : PVC w0 // x.p ∈ mrgC a b}) : plC (xs ++ [x]) = plC xs ++ [x.1.p] := by unfold plC; rw [List.map_append]; rfl
theorem tmpsIn_one (T : Array Value) (v : Value) (s : Tmp) : tmpsIn T #[v] #[s] = T.setIfInBounds s v := by simp [tmpsIn]
theorem bodyD_one {P : Program} {fn : Func} {R : Ending → World → Prop} {a : Act} {w : World} {D : Nat} (hd : a.defers = [{ target := .collected D, args := #[] }]) (hK : w.heap[D]? = some (.deferred (some []))) (h : bodyPost P fn R .ret { a with defers := [] } (w.putObj D (.deferred none))) : BodyD P fn R .ret a w := by
  obtain ⟨_, v, h1, h2⟩ := h
  exact ⟨[D], hd, hK, v, h1, h2⟩
/-- Between two rounds. -/
structure IApp (w : World) (L g1 g2 bt bf bm mb : Nat) (dnum : Int) (B1 : Array Value) (gone : List ByteArray) (xs : List MPC) (W : World) : Prop where
  hb : Below w.heap.size w W
  sz : L ≤ W.heap.size
  ht : ∃ vt, W.heap[bt]? = some (.cells #[.int .i64 dnum, vt] 24 (0, 0)) ∧ Kd.R k63 63 W L (fun _ => True) vt (appCells gone xs)
  hf : W.heap[bf]? = some (.cells #[.int .i64 (appFound gone xs : Nat)] 3 (0, 0))
  hm : W.heap[bm]? = some (.cells #[.map (some mb)] 65 (0, 0))
  mp : MapS Try.prog 9 3 W mb gone.length (fG gone)
  h1 : W.heap[g1]? = some (.cells B1 27 (0, 0))
  h2 : W.heap[g2]? = some (.cells #[.int .i64 0, .slice none 0 0] 24 (0, 0))
theorem IApp.turn {w : World} {L g1 g2 bt bf bm mb : Nat} {dnum : Int} {B1 : Array Value} {gone : List ByteArray} {xs : List MPC} {W W' : World} (hL : w.heap.size ≤ L) (hmb : mb < L) (ht : Turn L W W') (h : IApp w L g1 g2 bt bf bm mb dnum B1 gone xs W) : IApp w L g1 g2 bt bf bm mb dnum B1 gone xs W' := by
  obtain ⟨h1, h2, ⟨vt, h3, h4⟩, h5, h6, h7, h8, h9⟩ := h
  exact ⟨Below.turn h1 ht hL, Nat.le_trans h2 ht.size, ⟨vt, ht.blk h3, R_turn h4 ht⟩, ht.blk h5, ht.blk h6, h7.turn ht hmb, ht.blk h8, ht.blk h9⟩
theorem appCells_snoc (gone : List ByteArray) (xs : List MPC) (x : MPC) : appCells gone (xs ++ [x]) = match appKeep gone x with | none => appCells gone xs | some c => appCells gone xs ++ [c] := by
  unfold appCells
  rw [List.filterMap_append]
  cases h : appKeep gone x with
  | none => simp [List.filterMap_cons, h]
  | some c => simp [List.filterMap_cons, h]
theorem appCells_le (gone : List ByteArray) (xs : List MPC) : (appCells gone xs).length ≤ xs.length := List.length_filterMap_le _ _
theorem appFound_le (gone : List ByteArray) (xs : List MPC) : appFound gone xs ≤ xs.length := List.length_filter_le _ _
theorem appFound_snoc (gone : List ByteArray) (xs : List MPC) (x : MPC) : appFound gone (xs ++ [x]) = appFound gone xs + (if !x.isR && decide (fG gone x.l.f0 = 1) then 1 else 0) := by
  unfold appFound
  rw [List.filter_append, List.length_append]
  congr 1
  simp only [List.filter_cons, List.filter_nil]
  split <;> rfl
set_option maxRecDepth 100000 in
set_option maxHeartbeats 16000000 in
theorem apply15 (num : Int) (cs : List S63) (dnum : Int) (set : List S63) (gone : List ByteArray) (A B G : Option Addr) (ca cb cg : Nat) (w : World) (hA : Kd.C k63 w A cs.length cs) (hB : Kd.C k63 w B set.length set) (hG : Kd.C Kd.string w G gone.length gone) (hca : cs.length ≤ ca) (hcb : set.length ≤ cb) :
    Calls Try.prog 15 #[.agg #[.int .i64 num, .slice A cs.length ca], .agg #[.int .i64 dnum, .slice B set.length cb, .slice G gone.length cg]] w fun e w' => ApplyAns (applyP num cs dnum set gone) w e w' := by
  have HT34 : Hid (∀ W, Below w.heap.size w W → Calls Try.prog 34 #[.agg #[.int .i64 num, .slice A cs.length ca]] W fun e w' => e = .returned (.int .i64 (chkS num cs)) ∧ Hid (Below W.heap.size W w')) := Lib.hid (fun W hW => checkState34 num cs A ca W (Kd.C_below hA hW))
  have HT14 : Hid (∀ W, Below w.heap.size w W → Calls Try.prog 14 #[.agg #[.int .i64 dnum, .slice B set.length cb, .slice G gone.length cg]] W fun e w' => e = .returned (.int .i64 (chkD dnum set gone)) ∧ Hid (Below W.heap.size W w')) := Lib.hid (fun W hW => check14 dnum set gone B G cb cg W (Kd.C_below hB hW) (Kd.C_below hG hW))
  obtain ⟨n, hn⟩ : ∃ n, n = cs.length := ⟨_, rfl⟩
  obtain ⟨m, hm⟩ : ∃ m, m = set.length := ⟨_, rfl⟩
  obtain ⟨p, hp⟩ : ∃ p, p = gone.length := ⟨_, rfl⟩
  have HA := Lib.hid hA
  have HB := Lib.hid hB
  have HG := Lib.hid hG
  have Hn := Lib.hid hn
  have Hm := Lib.hid hm
  have Hp := Lib.hid hp
  have Hca := Lib.hid hca
  have Hcb := Lib.hid hcb
  have hpm : p ≤ 9223372036854775807 := by rw [hp]; exact Kd.C_max hG
  rw [← hn] at HT34 ⊢
  rw [← hm, ← hp] at HT14 ⊢
  clear hA hB hG hca hcb hn hm hp
  have H0 : Hid ((((w.alloc (.cells #[.int .i64 num, .slice A n ca] 24)).alloc (.cells #[.int .i64 dnum, .slice B m cb, .slice G p cg] 27)).alloc (.cells #[.int .i64 0, .slice none 0 0] 24)).heap[w.heap.size]? = some (.cells #[.int .i64 num, .slice A n ca] 24 (0, 0))) := Lib.hid (blk_alloc (blk_alloc (blk_new w _) _) _)
  have H1 : Hid ((((w.alloc (.cells #[.int .i64 num, .slice A n ca] 24)).alloc (.cells #[.int .i64 dnum, .slice B m cb, .slice G p cg] 27)).alloc (.cells #[.int .i64 0, .slice none 0 0] 24)).heap[(w.heap.size + 1)]? = some (.cells #[.int .i64 dnum, .slice B m cb, .slice G p cg] 27 (0, 0))) := Lib.hid (by
    have := blk_new (w.alloc (.cells #[.int .i64 num, .slice A n ca] 24)) (.cells #[.int .i64 dnum, .slice B m cb, .slice G p cg] 27)
    rw [World.size_alloc] at this
    exact blk_alloc this _)
  have H2 : Hid ((((w.alloc (.cells #[.int .i64 num, .slice A n ca] 24)).alloc (.cells #[.int .i64 dnum, .slice B m cb, .slice G p cg] 27)).alloc (.cells #[.int .i64 0, .slice none 0 0] 24)).heap[(w.heap.size + 1 + 1)]? = some (.cells #[.int .i64 0, .slice none 0 0] 24 (0, 0))) := Lib.hid (by
    have := blk_new ((w.alloc (.cells #[.int .i64 num, .slice A n ca] 24)).alloc (.cells #[.int .i64 dnum, .slice B m cb, .slice G p cg] 27)) (.cells #[.int .i64 0, .slice none 0 0] 24)
    rw [World.size_alloc, World.size_alloc] at this
    exact this)
  have HW : Hid (Below w.heap.size w (((w.alloc (.cells #[.int .i64 num, .slice A n ca] 24)).alloc (.cells #[.int .i64 dnum, .slice B m cb, .slice G p cg] 27)).alloc (.cells #[.int .i64 0, .slice none 0 0] 24))) := Lib.hid ((((Below.refl _ w).alloc (Nat.le_refl _) _).alloc (by simp) _).alloc (by simp; omega) _)
  refine calls_of_marks Try.func15 rfl ?_
  simp only [Try.ntmps15, List.size_toArray, List.length_cons, List.length_nil, Nat.reduceAdd, Nat.reduceSub, Array.replicate_succ, Array.replicate_zero, List.push_toArray, List.append_toArray, List.nil_append, List.cons_append]
  go_upto_region 1 with (fail)
  obtain ⟨g2, e2⟩ : ∃ g, g = w.heap.size + 1 + 1 := ⟨_, rfl⟩
  rw [← e2] at H2 ⊢
  obtain ⟨g1, e1⟩ : ∃ g, g = w.heap.size + 1 := ⟨_, rfl⟩
  rw [← e1] at H1 ⊢
  obtain ⟨g0, e0⟩ : ∃ g, g = w.heap.size := ⟨_, rfl⟩
  rw [← e0] at H0 ⊢
  have HE : Hid (g0 = w.heap.size ∧ g1 = w.heap.size + 1 ∧ g2 = w.heap.size + 2) := Lib.hid ⟨e0, e1, by omega⟩
  have l01 : g0 ≠ g1 := by omega
  have l02 : g0 ≠ g2 := by omega
  have l12 : g1 ≠ g2 := by omega
  clear e0 e1 e2
  generalize (((w.alloc (.cells #[.int .i64 num, .slice A n ca] 24)).alloc (.cells #[.int .i64 dnum, .slice B m cb, .slice G p cg] 27)).alloc (.cells #[.int .i64 0, .slice none 0 0] 24)) = wa at *
  generalize hz1 : chkS num cs = z1 at *
  have HZ1 := Lib.hid hz1
  clear hz1
  generalize hz2 : chkD dnum set gone = z2 at *
  have HZ2 := Lib.hid hz2
  clear hz2
  have a0 : wa.cell? ⟨g0, 0, none⟩ = some (.int .i64 num) := blk_at H0.out 0 rfl
  have a1 : wa.cell? ⟨g0, 1, none⟩ = some (.slice A n ca) := blk_at H0.out 1 rfl
  by_cases hz0 : z1 = 0
  rotate_left
  · have HR : Hid (applyP num cs dnum set gone = (0, [], z1)) := Lib.hid (by unfold applyP; rw [HZ1.out, if_pos hz0])
    have k1 : (z1 == 0) = false := beq_false_of_ne hz0
    have k2 : (z1 != 0) = true := by simp [hz0]
    clear hz0
    go_wp2_with (go_at_call 34; refine (HT34.out _ HW.out).mono ?_; rintro e w1 ⟨rfl, hb1⟩
                 have HW1 : Hid (Below w.heap.size w w1) := HW.out.trans (hb1.out.mono HW.out.size)
                 have K2 := Lib.hid (blk_below H2.out hb1.out)
                 clear hb1 a0 a1
                 have x0 : w1.cell? ⟨g2, 0, none⟩ = some (.int .i64 0) := blk_at K2.out 0 rfl
                 have y0 : w1.frozen? ⟨g2, 0, none⟩ = false := blk_frozen K2.out 0
                 have x1 : w1.cell? ⟨g2, 1, none⟩ = some (.slice none 0 0) := blk_at K2.out 1 rfl
                 have y1 : w1.frozen? ⟨g2, 1, none⟩ = false := blk_frozen K2.out 1
                 skip)
    have hb4 : ((w1.setCell ⟨g2, 0, none⟩ (.int .i64 0)).setCell ⟨g2, 1, none⟩ (.slice none 0 0)).heap[g2]? = some (.cells #[.int .i64 0, .slice none 0 0] 24 (0, 0)) := blk_put (blk_put K2.out 0 _ rfl) 1 _ rfl
    refine bodyD_ret (bodyPost_ret (results_list (rs := [.cell 4 24, .tmp 5]) (vs := [.agg #[.int .i64 0, .slice none 0 0], .int .i64 z1]) rfl (by simp) (.cell g2 24 #[.int .i64 0, .slice none 0 0] (0, 0) _ rfl hb4 Try.underlying24 rfl (by kernel_rfl) (.tmp .nil))) rfl ?_)
    rw [HR.out]
    exact ⟨.slice none 0 0, rfl, Lib.hid (Kd.R_nil _ _ _ _ _), Lib.hid ((HW1.out.setCell (show w.heap.size ≤ g2 by have := HE.out; omega) _).setCell (show w.heap.size ≤ g2 by have := HE.out; omega) _)⟩
  subst hz0
  go_upto_region 4 with (go_at_call 34; refine (HT34.out _ HW.out).mono ?_; rintro e w1 ⟨rfl, hb1⟩
                         have HW1 : Hid (Below w.heap.size w w1) := HW.out.trans (hb1.out.mono HW.out.size)
                         have K1 := Lib.hid (blk_below H1.out hb1.out)
                         have K0 := Lib.hid (blk_below H0.out hb1.out)
                         have K2 := Lib.hid (blk_below H2.out hb1.out)
                         clear hb1)
  clear a0 a1 H0 H1 H2 HW HT34
  have a0 : w1.cell? ⟨g1, 0, none⟩ = some (.int .i64 dnum) := blk_at K1.out 0 rfl
  have a1 : w1.cell? ⟨g1, 1, none⟩ = some (.slice B m cb) := blk_at K1.out 1 rfl
  have a2 : w1.cell? ⟨g1, 2, none⟩ = some (.slice G p cg) := blk_at K1.out 2 rfl
  by_cases hz0 : z2 = 0
  rotate_left
  · have HR : Hid (applyP num cs dnum set gone = (0, [], z2)) := Lib.hid (by unfold applyP; rw [HZ1.out, if_neg (by simp), HZ2.out, if_pos hz0])
    have k1 : (z2 == 0) = false := beq_false_of_ne hz0
    have k2 : (z2 != 0) = true := by simp [hz0]
    clear hz0
    go_wp2_with (go_at_call 14; refine (HT14.out _ HW1.out).mono ?_; rintro e w2 ⟨rfl, hb1⟩
                 have HW2 : Hid (Below w.heap.size w w2) := HW1.out.trans (hb1.out.mono HW1.out.size)
                 have K22 := Lib.hid (blk_below K2.out hb1.out)
                 clear hb1 a0 a1 a2
                 have x0 : w2.cell? ⟨g2, 0, none⟩ = some (.int .i64 0) := blk_at K22.out 0 rfl
                 have y0 : w2.frozen? ⟨g2, 0, none⟩ = false := blk_frozen K22.out 0
                 have x1 : w2.cell? ⟨g2, 1, none⟩ = some (.slice none 0 0) := blk_at K22.out 1 rfl
                 have y1 : w2.frozen? ⟨g2, 1, none⟩ = false := blk_frozen K22.out 1
                 skip)
    have hb4 : ((w2.setCell ⟨g2, 0, none⟩ (.int .i64 0)).setCell ⟨g2, 1, none⟩ (.slice none 0 0)).heap[g2]? = some (.cells #[.int .i64 0, .slice none 0 0] 24 (0, 0)) := blk_put (blk_put K22.out 0 _ rfl) 1 _ rfl
    refine bodyD_ret (bodyPost_ret (results_list (rs := [.cell 4 24, .tmp 5]) (vs := [.agg #[.int .i64 0, .slice none 0 0], .int .i64 z2]) rfl (by simp) (.cell g2 24 #[.int .i64 0, .slice none 0 0] (0, 0) _ rfl hb4 Try.underlying24 rfl (by kernel_rfl) (.tmp .nil))) rfl ?_)
    rw [HR.out]
    exact ⟨.slice none 0 0, rfl, Lib.hid (Kd.R_nil _ _ _ _ _), Lib.hid ((HW2.out.setCell (show w.heap.size ≤ g2 by have := HE.out; omega) _).setCell (show w.heap.size ≤ g2 by have := HE.out; omega) _)⟩
  subst hz0
  go_upto_region 7 with (go_at_call 14; refine (HT14.out _ HW1.out).mono ?_; rintro e w2 ⟨rfl, hb1⟩
                         have HW2 : Hid (Below w.heap.size w w2) := HW1.out.trans (hb1.out.mono HW1.out.size)
                         have H1 := Lib.hid (blk_below K1.out hb1.out)
                         have H0 := Lib.hid (blk_below K0.out hb1.out)
                         have H2 := Lib.hid (blk_below K2.out hb1.out)
                         clear hb1)
  clear a0 a1 a2 K0 K1 K2 HW1 HT14
  have HOK := Lib.hid (chkS_ok HZ1.out)
  have HOD := Lib.hid (chkD_ok HZ2.out)
  have hp64 : p ≤ 64 := by have := HOD.out.2.1; have := Hp.out; omega
  have hn64 : n ≤ 64 := by have := HOK.out.1; have := Hn.out; omega
  have hm64 : m ≤ 64 := by have := (chkS_ok HOD.out.1).1; have := Hm.out; omega
  have hmk := run_makeMap (P := Try.prog) (w := w2) 65
  have HMP : Hid (MapS Try.prog 9 3 ((w2.alloc (.map #[] 0)).alloc (.cells #[.map (some w2.heap.size)] 65)) w2.heap.size 0 (fG (gone.take 0))) := Lib.hid (by
    have e : fG (gone.take 0) = fun _ => 0 := by funext y; rfl
    rw [e]
    exact (MapS.made _ _ _ w2).move (Below.heap_alloc _ _ _ (by simp)))
  have HBM : Hid (((w2.alloc (.map #[] 0)).alloc (.cells #[.map (some w2.heap.size)] 65)).heap[w2.heap.size + 1]? = some (.cells #[.map (some w2.heap.size)] 65 (0, 0))) := Lib.hid (by
    have := blk_new (w2.alloc (.map #[] 0)) (.cells #[.map (some w2.heap.size)] 65)
    rw [World.size_alloc] at this
    exact this)
  have G0 := Lib.hid (blk_alloc (blk_alloc H0.out (.map #[] 0)) (.cells #[.map (some w2.heap.size)] 65))
  have G1 := Lib.hid (blk_alloc (blk_alloc H1.out (.map #[] 0)) (.cells #[.map (some w2.heap.size)] 65))
  have G2 := Lib.hid (blk_alloc (blk_alloc H2.out (.map #[] 0)) (.cells #[.map (some w2.heap.size)] 65))
  have HW3 : Hid (Below w.heap.size w ((w2.alloc (.map #[] 0)).alloc (.cells #[.map (some w2.heap.size)] 65))) := (HW2.out.alloc HW2.out.size _).alloc (by have := HW2.out.size; simp; omega) _
  obtain ⟨mb, hmb⟩ : ∃ mb, mb = w2.heap.size := ⟨_, rfl⟩
  obtain ⟨bm, hbm⟩ : ∃ bm, bm = w2.heap.size + 1 := ⟨_, rfl⟩
  have HMB : Hid (g2 < mb ∧ bm = mb + 1) := Lib.hid ⟨by rw [hmb]; exact blk_lt H2.out, by omega⟩
  go_upto_region 8 with (fail)
  clear hmk H0 H1 H2 HW2
  rw [← hbm] at HBM ⊢
  rw [← hmb] at HMP HBM G0 G1 G2 HW3 ⊢
  clear hmb hbm
  generalize (w2.alloc (.map #[] 0)).alloc (.cells #[.map (some mb)] 65) = w3 at *
  have a0 : w3.cell? ⟨g1, 0, none⟩ = some (.int .i64 dnum) := blk_at G1.out 0 rfl
  have a1 : w3.cell? ⟨g1, 1, none⟩ = some (.slice B m cb) := blk_at G1.out 1 rfl
  have a2 : w3.cell? ⟨g1, 2, none⟩ = some (.slice G p cg) := blk_at G1.out 2 rfl
  go_wp2_with (fail)
  clear a0 a1 a2
  go_loopw [10, 30] (fun v10 v30 wr => ∃ k : Nat, k ≤ p ∧ v30 = .int .i64 k ∧ Hid (MapS Try.prog 9 3 wr mb k (fG (gone.take k))) ∧ Hid (wr.heap[bm]? = some (.cells #[.map (some mb)] 65 (0, 0))) ∧ Hid (Below w.heap.size w wr) ∧ Hid (wr.heap[g0]? = some (.cells #[.int .i64 num, .slice A n ca] 24 (0, 0))) ∧ Hid (wr.heap[g1]? = some (.cells #[.int .i64 dnum, .slice B m cb, .slice G p cg] 27 (0, 0))) ∧ Hid (wr.heap[g2]? = some (.cells #[.int .i64 0, .slice none 0 0] 24 (0, 0)))) (fun _ v30 _ => p - (intOf v30).toNat)
  case atStart => exact ⟨0, Nat.zero_le _, rfl, HMP, HBM, HW3, G0, G1, G2⟩
  case round =>
    clear HMP HBM HW3 G0 G1 G2
    obtain ⟨k, hk, rfl, HM, HBM, HW, G0, G1, G2⟩ := hrel
    have b0 : wr.cell? ⟨bm, 0, none⟩ = some (.map (some mb)) := blk_at HBM.out 0 rfl
    by_cases hlt : k < p
    · obtain ⟨ad, hG1, e0⟩ := at_str HG.out k (by rw [← Hp.out]; exact hlt)
      subst hG1
      have hmem : gone.getD k ⟨#[]⟩ ∈ gone := getD_mem _ _ _ (by rw [← Hp.out]; exact hlt)
      have hst := fG_step gone k (by rw [← Hp.out]; exact hlt)
      have hc12 := HOD.out.2.2 _ hmem
      generalize gone.getD k ⟨#[]⟩ = key at *
      replace e0 := pw_cell_below HW.out e0
      obtain ⟨w', hrun, hm', hg'⟩ := HM.out.set (t := 65) Try.underlying65 Try.underlying9 Try.underlying3 (Nat.lt_of_lt_of_le hlt (Nat.le_trans hp64 (by decide))) key 1 (small_max hc12) wf1
      rw [hst] at hm'
      have HM' := Lib.hid hm'
      have hgb : ∀ g, g ≠ mb → some g ≠ some mb := fun g h e => h (by injection e)
      have HW' : Hid (Below w.heap.size w w') := Lib.hid (below_grown HW.out hg' (by have := HMB.out; have := HE.out; omega))
      have HBM' := Lib.hid (blk_grown HBM.out hg' (hgb _ (by have := HMB.out; omega)))
      have G0' := Lib.hid (blk_grown G0.out hg' (hgb _ (by have := HMB.out; have := HE.out; omega)))
      have G1' := Lib.hid (blk_grown G1.out hg' (hgb _ (by have := HMB.out; have := HE.out; omega)))
      have G2' := Lib.hid (blk_grown G2.out hg' (hgb _ (by have := HMB.out; have := HE.out; omega)))
      have i0 : (0 : Int) ≤ (k : Int) := by omega
      have i1 : (k : Int) < (p : Int) := by omega
      clear hst hm' hg' hgb hmem
      go_wp2_with (fail)
      clear hrun
      go_roundw
      case rel => exact ⟨k + 1, by omega, by go_num, HM', HBM', HW', G0', G1', G2'⟩
      case measure => simp [intOf]; omega
    obtain rfl : p = k := by omega
    have HMP : Hid (MapS Try.prog 9 3 wr mb p (fG gone)) := by
      rw [List.take_of_length_le (by rw [← Hp.out]; exact Nat.le_refl _)] at HM
      exact HM
    clear HM hlt hk b0
    have a0 : wr.cell? ⟨g1, 0, none⟩ = some (.int .i64 dnum) := blk_at G1.out 0 rfl
    have a1 : wr.cell? ⟨g1, 1, none⟩ = some (.slice B m cb) := blk_at G1.out 1 rfl
    have a2 : wr.cell? ⟨g1, 2, none⟩ = some (.slice G p cg) := blk_at G1.out 2 rfl
    have b0 : wr.cell? ⟨g0, 0, none⟩ = some (.int .i64 num) := blk_at G0.out 0 rfl
    have b1 : wr.cell? ⟨g0, 1, none⟩ = some (.slice A n ca) := blk_at G0.out 1 rfl
    have qa : g0 < wr.heap.size := blk_lt G0.out
    have qb : g1 < wr.heap.size := blk_lt G1.out
    have HT : Hid (((wr.alloc (.cells #[.int .i64 dnum, .slice none 0 0] 24)).alloc (.cells #[.int .i64 0] 3)).heap[wr.heap.size]? = some (.cells #[.int .i64 dnum, .slice none 0 0] 24 (0, 0))) := Lib.hid (blk_alloc (blk_new wr _) _)
    have HF : Hid (((wr.alloc (.cells #[.int .i64 dnum, .slice none 0 0] 24)).alloc (.cells #[.int .i64 0] 3)).heap[wr.heap.size + 1]? = some (.cells #[.int .i64 0] 3 (0, 0))) := Lib.hid (by
      have := blk_new (wr.alloc (.cells #[.int .i64 dnum, .slice none 0 0] 24)) (.cells #[.int .i64 0] 3)
      rw [World.size_alloc] at this
      exact this)
    have HWx : Hid (Below w.heap.size w ((wr.alloc (.cells #[.int .i64 dnum, .slice none 0 0] 24)).alloc (.cells #[.int .i64 0] 3))) := (HW.out.alloc HW.out.size _).alloc (by have := HW.out.size; simp; omega) _
    have HBx : Hid (Below wr.heap.size wr ((wr.alloc (.cells #[.int .i64 dnum, .slice none 0 0] 24)).alloc (.cells #[.int .i64 0] 3))) := ((Below.refl _ wr).alloc (Nat.le_refl _) _).alloc (by simp) _
    have HSx : Hid (((wr.alloc (.cells #[.int .i64 dnum, .slice none 0 0] 24)).alloc (.cells #[.int .i64 0] 3)).heap.size = wr.heap.size + 2) := Lib.hid (by simp)
    go_upto_region 15 with (fail)
    clear a0 a1 a2 b0 b1 qa qb
    obtain ⟨bf, hbf⟩ : ∃ bf, bf = wr.heap.size + 1 := ⟨_, rfl⟩
    rw [← hbf] at HF ⊢
    obtain ⟨bt, hbt⟩ : ∃ bt, bt = wr.heap.size := ⟨_, rfl⟩
    rw [← hbt] at HT ⊢
    have HTF : Hid (mb < bt ∧ bm < bt ∧ g2 < bt ∧ bf = bt + 1) := Lib.hid ⟨by rw [hbt]; exact HMP.out.lt, by rw [hbt]; exact blk_lt HBM.out, by rw [hbt]; exact blk_lt G2.out, by omega⟩
    replace HSx : Hid (((wr.alloc (.cells #[.int .i64 dnum, .slice none 0 0] 24)).alloc (.cells #[.int .i64 0] 3)).heap.size = bt + 2) := Lib.hid (by rw [HSx.out, hbt])
    replace HMP : Hid (MapS Try.prog 9 3 _ mb p (fG gone)) := HMP.out.move (HBx.out.block _ HMP.out.lt)
    replace HBM := Lib.hid (blk_below HBM.out HBx.out)
    replace G0 := Lib.hid (blk_below G0.out HBx.out)
    replace G1 := Lib.hid (blk_below G1.out HBx.out)
    replace G2 := Lib.hid (blk_below G2.out HBx.out)
    clear HBx HW hbf hbt
    generalize (wr.alloc (.cells #[.int .i64 dnum, .slice none 0 0] 24)).alloc (.cells #[.int .i64 0] 3) = wx at *
    have a0 : wx.cell? ⟨g1, 0, none⟩ = some (.int .i64 dnum) := blk_at G1.out 0 rfl
    have a1 : wx.cell? ⟨g1, 1, none⟩ = some (.slice B m cb) := blk_at G1.out 1 rfl
    have a2 : wx.cell? ⟨g1, 2, none⟩ = some (.slice G p cg) := blk_at G1.out 2 rfl
    have b0 : wx.cell? ⟨g0, 0, none⟩ = some (.int .i64 num) := blk_at G0.out 0 rfl
    have b1 : wx.cell? ⟨g0, 1, none⟩ = some (.slice A n ca) := blk_at G0.out 1 rfl
    go_wp2_with (go_at_call 35; refine (merged35 A B n m ca cb wx).mono ?_; rintro e w4 ⟨rfl, hx1, hx2, hx3, hbx, hsx⟩)
    have HX1 := Lib.hid hx1.out
    have HX2 := Lib.hid hx2.out
    have HX3 := Lib.hid hx3.out
    have HS4 : Hid (w4.heap.size = bt + 5) := Lib.hid (by have := HSx.out; omega)
    have HW4 : Hid (Below w.heap.size w w4) := HWx.out.trans (hbx.out.mono HWx.out.size)
    replace HMP : Hid (MapS Try.prog 9 3 w4 mb p (fG gone)) := HMP.out.move (hbx.out.block _ HMP.out.lt)
    replace HBM := Lib.hid (blk_below HBM.out hbx.out)
    replace G1 := Lib.hid (blk_below G1.out hbx.out)
    replace G2 := Lib.hid (blk_below G2.out hbx.out)
    replace HT := Lib.hid (blk_below HT.out hbx.out)
    replace HF := Lib.hid (blk_below HF.out hbx.out)
    obtain ⟨q, hq⟩ : ∃ q, q = wx.heap.size := ⟨_, rfl⟩
    rw [← hq] at HX1 HX2 HX3 ⊢
    have HQ : Hid (q = bt + 2) := Lib.hid (by rw [hq]; exact HSx.out)
    clear a0 a1 a2 b0 b1 hx1 hx2 hx3 hbx hsx HSx HWx hq G0
    have hc0 : Below w.heap.size w w4 := HW4.out
    refine range_wp (α := {x : PVC w // x.p ∈ mrgC cs set}) (gf := 51) (lb := #[.pointer (some ⟨q, 0, none⟩), .pointer (some ⟨q + 1, 0, none⟩), .pointer (some ⟨q + 2, 0, none⟩)]) (by rfl) (fun args w => enters_ Try.func51 (by kernel_rfl) rfl args w)
      (X := fun k => k = bt ∨ k = bf)
      (stops51 cs set A B ca cb HA.out HB.out hc0 q (q + 1) (q + 2) (fun k => k = bt ∨ k = bf) (by rw [← Hn.out]; exact HX1.out) (by rw [← Hm.out]; exact HX2.out) HX3.out (by have := HQ.out; have := HTF.out; refine ⟨?_, ?_, ?_⟩ <;> (rintro (h | h) <;> omega)) (by have := HTF.out; have := HE.out; rintro k (h | h) <;> omega)) (fun _ => rfl)
      (fun xs W => IApp w w4.heap.size g1 g2 bt bf bm mb dnum #[.int .i64 dnum, .slice B m cb, .slice G p cg] gone (plC xs) W) (fun _ _ _ => False)
      (fun xs W W' ht h => h.turn hc0.size (by have := HS4.out; have := HTF.out; omega) ht) (fun _ _ _ _ _ h => h.elim)
      ⟨hc0, Nat.le_refl _, ⟨_, HT.out, Kd.R_nil _ _ _ _ _⟩, HF.out, HBM.out, by rw [← Hp.out]; exact HMP.out, G1.out, G2.out⟩ (fun _ _ h => h.sz) (fun x => boxC x.1) 71 13 ?assign ?body ?done ?stop
    case assign =>
      rintro l ⟨⟨⟨vl, vr, isL, isR⟩, la, lc, ra, rc, hl, cl, hr, cr⟩, hx⟩ W K hK
      simp only [tmpsIn_one, encC, boxC, List.setIfInBounds_toArray, List.set_cons_zero, List.set_cons_succ] at hK ⊢
      clear hl cl hr cr hx
      generalize vl.f1.length = nl at *
      generalize vr.f1.length = nr at *
      refine regF_ (free_round l) (by kernel_rfl) (by rintro ⟨_, _, h⟩; exact h) ?_
      go_wp2_with (fail)
      exact hK
    case body =>
      rintro l pre ⟨⟨⟨vl, vr, isL, isR⟩, la, lc, ra, rc, hl, cl, hr, cr⟩, hx⟩ b W hLb hI hbx hLW hlen
      simp only [tmpsIn_one, encC, boxC, List.setIfInBounds_toArray, List.set_cons_zero, List.set_cons_succ] at hbx ⊢
      have hmem := mrgC_mem _ cs set (Nat.le_refl _) _ hx
      have hlim := mrgC_le _ cs set (Nat.le_refl _)
      obtain ⟨ib, isz, ⟨vt, it, irow⟩, if_, im, imp, i1, i2⟩ := hI
      have hxs : (plC pre).length ≤ 128 := by unfold plC; rw [List.length_map]; have := Hn.out; have := Hm.out; omega
      obtain ⟨xs, hxse⟩ : ∃ xs, xs = plC pre := ⟨_, rfl⟩
      rw [← hxse] at hxs if_ irow
      have hpm2 : plC (pre ++ [⟨⟨⟨vl, vr, isL, isR⟩, la, lc, ra, rc, hl, cl, hr, cr⟩, hx⟩]) = xs ++ [⟨vl, vr, isL, isR⟩] := by rw [plC_snoc, ← hxse]
      have HPM := Lib.hid hpm2
      obtain ⟨ys, hys⟩ : ∃ ys, ys = appCells gone xs := ⟨_, rfl⟩
      have Hys := Lib.hid hys
      obtain ⟨fo, hfo⟩ : ∃ fo, fo = appFound gone xs := ⟨_, rfl⟩
      have Hfo := Lib.hid hfo
      have hfo8 : fo ≤ 128 := by rw [hfo]; exact Nat.le_trans (appFound_le gone xs) hxs
      rw [← hys] at irow
      rw [← hfo] at if_
      have Hlim : Hid (ys.length ≤ 1000) := Lib.hid (by rw [hys]; exact Nat.le_trans (appCells_le gone xs) (by omega))
      obtain ⟨At, ct, hvt⟩ := Kd.R_slice irow
      obtain ⟨nt, hnt⟩ : ∃ nt, nt = ys.length := ⟨_, rfl⟩
      rw [← hnt] at hvt
      subst hvt
      have HT9' := Lib.hid it
      clear HT HF HMP HBM G1 G2 HX1 HX2 HX3
      have HT := Lib.hid it
      have HO := Lib.hid irow
      have HBW := Lib.hid ib
      have HLW := Lib.hid isz
      have HIf := Lib.hid if_
      have HIm := Lib.hid im
      have HMp := Lib.hid imp
      have HI1 := Lib.hid i1
      have HI2 := Lib.hid i2
      have HPx := Lib.hid hbx
      have HMEM := Lib.hid hmem
      obtain ⟨nl, hnl⟩ : ∃ nl, nl = vl.f1.length := ⟨_, rfl⟩
      obtain ⟨nr, hnr⟩ : ∃ nr, nr = vr.f1.length := ⟨_, rfl⟩
      have Hnl := Lib.hid hnl
      have Hnr := Lib.hid hnr
      have CL := Lib.hid (And.intro cl hl)
      have CR := Lib.hid (And.intro cr hr)
      rw [← hnl, ← hnr] at HPx ⊢
      have HLT : Hid (w.heap.size ≤ w4.heap.size ∧ mb < w4.heap.size ∧ w.heap.size ≤ bt ∧ bf ≠ bt ∧ bm ≠ bt ∧ mb ≠ bt ∧ g1 ≠ bt ∧ g2 ≠ bt) := Lib.hid (by have := HS4.out; have := HTF.out; have := HE.out; have := hc0.size; omega)
      clear it irow ib isz if_ im imp i1 i2 hbx hmem hlim hxs hys hfo hnt hnl hnr hpm2 HT9'
      refine wpIn_block (wpIn_block (wpIn_seq ?_))
      cases isR with
      | true =>
        have p5 : W.cell? ⟨b, 5, none⟩ = some (.bool true) := blk_at HPx.out 5 rfl
        refine regF_ (free_round l) (by kernel_rfl) (by rintro ⟨_, _, h⟩; exact h) ?_
        go_wp2_with (fail)
        clear p5
        refine wpIn_cond_true rfl ?_
        have HOC := Lib.hid (chkCells_ok set none (chkS_ok HOD.out.1).2.1 vr (HMEM.out.2.1 (by first | rfl | trivial)))
        have HCP : Hid (∀ V, Below w.heap.size w V → Calls Try.prog 37 #[.agg #[.string vr.f0, .slice ra nr rc]] V fun e w' => Copied vr V e w') := Lib.hid (fun V hV => by rw [Hnr.out]; exact copied37 vr ra rc V (Kd.C_below CR.out.1 hV) CR.out.2 HOC.out)
        have Hnc := Hnr
        refine startIn_ (m := 9) (S := (fun w' => w'.cell? ⟨bt, 1, none⟩ = some (.slice At nt ct) ∧ w'.cell? ⟨b, 2, none⟩ = some (.string vr.f0) ∧ w'.cell? ⟨b, 3, none⟩ = some (.slice ra nr rc))) (ds := [8]) (free_round _) (by kernel_rfl) (by rintro ⟨_, _, h⟩; exact h) #[false, false, false, false, false, false, false, false, false] (by kernel_rfl) rfl rfl ⟨blk_at HT.out 1 rfl, blk_at HPx.out 2 rfl, blk_at HPx.out 3 rfl⟩ (fun hHeld => ?_)
        have HTd : Hid (W.drew.heap[bt]? = some (.cells #[.int .i64 dnum, .slice At nt ct] 24 (0, 0))) := HT.out
        have HPd : Hid (W.drew.heap[b]? = some (.cells #[.string vl.f0, .slice la nl lc, .string vr.f0, .slice ra nr rc, .bool isL, .bool true] 71 (0, 0))) := HPx.out
        have HOd := Lib.hid (Kd.R_drew HO.out)
        have HBd : Hid (Below w.heap.size w W.drew) := HBW.out.drew
        have HLd : Hid (w4.heap.size ≤ W.drew.heap.size) := HLW.out
        have HFd : Hid (Oth w4.heap.size bt 63 W W.drew) := Oth.of_below (Below.refl _ _).drew
        generalize W.drew = Wd at hHeld HTd HPd HOd HBd HLd HFd ⊢
        refine pure_ (i := 0) (N := some 57) (v := ?_) (a' := ?_) #[true, false, false, false, false, false, false, false, false] rfl rfl (by kernel_rfl) (fun _ _ _ h => h) (Or.inl ⟨by rfl, ?_⟩) ?_ ?_
        rotate_left
        · intro w'
          go_simp
          with_reducible rfl
        rotate_left
        · simp only [Act.put, List.setIfInBounds_toArray, List.set_cons_zero, List.set_cons_succ]
          rfl
        refine take_ (i := 1) (N := some 58) (v := ?_) (a' := ?_) #[true, true, false, false, false, false, false, false, false] rfl rfl (by kernel_rfl) (fun _ _ _ h => h) (Or.inl ⟨by rfl, ?_⟩) hHeld ?_ ?_
        rotate_left
        · rintro w' ⟨s0, s1, s2⟩
          go_simp
          with_reducible rfl
        rotate_left
        · simp only [Act.put, List.setIfInBounds_toArray, List.set_cons_zero, List.set_cons_succ]
          rfl
        refine pure_ (i := 2) (N := some 59) (v := ?_) (a' := ?_) #[true, true, true, false, false, false, false, false, false] rfl rfl (by kernel_rfl) (fun _ _ _ h => h) (Or.inl ⟨by rfl, ?_⟩) ?_ ?_
        rotate_left
        · intro w'
          go_simp
          with_reducible rfl
        rotate_left
        · simp only [Act.put, List.setIfInBounds_toArray, List.set_cons_zero, List.set_cons_succ]
          rfl
        refine take_ (i := 3) (N := some 60) (v := ?_) (a' := ?_) #[true, true, true, true, false, false, false, false, false] rfl rfl (by kernel_rfl) (fun _ _ _ h => h) (Or.inl ⟨by rfl, ?_⟩) hHeld ?_ ?_
        rotate_left
        · rintro w' ⟨s0, s1, s2⟩
          go_simp
          with_reducible rfl
        rotate_left
        · simp only [Act.put, List.setIfInBounds_toArray, List.set_cons_zero, List.set_cons_succ]
          rfl
        refine one_ (i := 4) (N := some 61) #[true, true, true, true, true, false, false, false, false] rfl rfl (by kernel_rfl) (by decide) (fun K hK => ?_)
        refine goes_ Try.func37 (by kernel_rfl) rfl #[.agg #[.string vr.f0, .slice ra nr rc]] (by rfl) rfl rfl (by simp only [List.map_toArray, List.map_cons, List.map_nil]; rfl) ?_
        refine (HCP.out Wd HBd.out).mono ?_
        rintro e W1 ⟨v, rfl, hv, hb⟩
        obtain ⟨Av, cv, hvv⟩ := Kd.R_slice hv.out
        rw [← Hnc.out] at hvv
        subst hvv
        refine ⟨_, rfl, ?_⟩
        have HT1 := Lib.hid (blk_below HTd.out hb.out)
        have HP1 := Lib.hid (blk_below HPd.out hb.out)
        have HO1 := Lib.hid (Kd.R_below HOd.out hb.out)
        have HF1 : Hid (Oth w4.heap.size bt 63 W W1) := HFd.out.trans (Oth.of_below hb.out)
        have HV1 := Lib.hid hv.out
        have HL1 := Lib.hid hb.out.size
        refine hK.out _ _ ⟨blk_at HT1.out 1 rfl, blk_at HP1.out 2 rfl, blk_at HP1.out 3 rfl⟩ (fun hHeld => ?_)
        clear hK K hb hv HTd HPd HFd HBd
        refine norm_ (a' := ?_) ?_ ?_
        rotate_left
        · show Act.put _ (some 61) _ = _
          simp only [Act.put, List.setIfInBounds_toArray, List.set_cons_zero, List.set_cons_succ]
          rfl
        refine one_ (i := 5) (N := some 62) #[true, true, true, true, true, true, false, false, false] rfl rfl (by kernel_rfl) (by decide) (fun K hK => ?_)
        refine value_ (w1 := (W1.alloc (.cells [.string vr.f0, .slice Av nr cv].toArray 63))) (v := .slice (some ⟨W1.heap.size, 0, none⟩) 1 1) (by rfl) rfl (by go_simp) ?_
        refine hK.out _ _ ⟨pw_cell_below ((Below.refl _ _).alloc (Nat.le_refl _) _) hHeld.1, pw_cell_below ((Below.refl _ _).alloc (Nat.le_refl _) _) hHeld.2.1, pw_cell_below ((Below.refl _ _).alloc (Nat.le_refl _) _) hHeld.2.2⟩ (fun hHeld => ?_)
        clear hK K
        refine norm_ (a' := ?_) ?_ ?_
        rotate_left
        · show Act.put _ (some 62) _ = _
          simp only [Act.put, List.setIfInBounds_toArray, List.set_cons_zero, List.set_cons_succ]
          rfl
        refine one_ (i := 6) (N := some 63) #[true, true, true, true, true, true, true, false, false] rfl rfl (by kernel_rfl) (by decide) (fun K hK => ?_)
        refine Kd.R_append_step k63 (w0 := W1) w4.heap.size (by rfl) (.tmp 58) (.tmp 62) 22 63 (.agg #[.string ⟨#[]⟩, .slice none 0 0]) 40 rfl Try.underlying22 info63' rfl (by decide) (by decide) (.slice At nt ct) ys vr _ (fun _ => True) (fun k => Wd.heap.size ≤ k) rfl rfl ?hp ?hok (fun _ _ => trivial) HO1.out (Below.refl _ _) ?hS ?hl ?_
        case hp => exact k63_mkM _ _ _ vr (Kd.R_lower (Kd.R_mono (Kd.R_bound HV1.out) (fun k hk => hk.2.1)) HLd.out)
        case hok => exact fun k hk => ⟨trivial, fun he => by have := Kd.R_lt HOd.out k he.symm; omega⟩
        case hS => exact Nat.le_trans HLd.out HL1.out
        case hl => have := Hlim.out; omega
        intro v1 W2 hO2 hB2 hg2 hat2
        have HF2 : Hid (Oth w4.heap.size bt 63 W W2) := HF1.out.trans (Oth.grown hg2 (fun k hk => ⟨Kd.R_base HO1.out k hk, Kd.R_typed HO1.out k hk⟩))
        have HT2 := Lib.hid (blk_grown HT1.out hg2 (Kd.R_ne HO1.out HT1.out (by decide)))
        have HP2 := Lib.hid (blk_grown HP1.out hg2 (Kd.R_ne HO1.out HP1.out (by decide)))
        obtain ⟨A2, c2, hv2⟩ := Kd.R_slice hO2
        obtain ⟨m2, hm2⟩ : ∃ m2, m2 = (ys ++ [vr]).length := ⟨_, rfl⟩
        rw [← hm2] at hv2
        subst hv2
        have Hm2 := Lib.hid hm2
        have HO2 := Lib.hid hO2
        refine hK.out _ _ ⟨blk_at HT2.out 1 rfl, blk_at HP2.out 2 rfl, blk_at HP2.out 3 rfl⟩ (fun hHeld => ?_)
        clear hK K hO2 hB2 hg2 hat2 hm2 HT1 HP1 HO1 HF1 HV1 HL1 HOd HLd
        refine norm_ (a' := ?_) ?_ ?_
        rotate_left
        · show Act.put _ (some 63) _ = _
          simp only [Act.put, List.setIfInBounds_toArray, List.set_cons_zero, List.set_cons_succ]
          rfl
        refine pure_ (i := 7) (N := some 64) (v := ?_) (a' := ?_) #[true, true, true, true, true, true, true, true, false] rfl rfl (by kernel_rfl) (fun _ _ _ h => h) (Or.inl ⟨by rfl, ?_⟩) ?_ ?_
        rotate_left
        · intro w'
          go_simp
          with_reducible rfl
        rotate_left
        · simp only [Act.put, List.setIfInBounds_toArray, List.set_cons_zero, List.set_cons_succ]
          rfl
        refine last_ (i := 8) (N := none) #[true, true, true, true, true, true, true, true, true] rfl rfl (by kernel_rfl) (by decide) (fun K hK => ?_)
        have x1 : W2.cell? ⟨bt, 1, none⟩ = some (.slice At nt ct) := blk_at HT2.out 1 rfl
        have z1 : W2.frozen? ⟨bt, 1, none⟩ = false := blk_frozen HT2.out 1
        refine skip_ (w1 := W2.setCell ⟨bt, 1, none⟩ (.slice A2 m2 c2)) (by rfl) rfl (by go_simp) ?_
        clear x1 z1
        refine hK.out _ _ ?_
        have HT9 : Hid ((W2.setCell ⟨bt, 1, none⟩ (.slice A2 m2 c2)).heap[bt]? = some (.cells #[.int .i64 dnum, .slice A2 m2 c2] 24 (0, 0))) := blk_put HT2.out 1 _ rfl
        have HO9 := Lib.hid (Kd.R_set HO2.out HT2.out (by decide) 1 (.slice A2 m2 c2))
        have HF9 : Hid (Oth w4.heap.size bt 63 W (W2.setCell ⟨bt, 1, none⟩ (.slice A2 m2 c2))) := HF2.out.trans (Oth.set 1 _)
        clear hK K HT2 HP2 HO2 HF2 hHeld
        generalize W2.setCell ⟨bt, 1, none⟩ (.slice A2 m2 c2) = W9 at *
        refine done_ (by kernel_rfl) ?_
        exact ⟨HF9.out.rnd (.inl rfl) HLW.out HT.out, Eq.mpr (congrArg (fun z => IApp w w4.heap.size g1 g2 bt bf bm mb dnum #[.int .i64 dnum, .slice B m cb, .slice G p cg] gone z W9) HPM.out)  ⟨HF9.out.below HBW.out HLT.out.1 HLT.out.2.2.1, Nat.le_trans HLW.out HF9.out.size, ⟨_, HT9.out, by rw [appCells_snoc, ← Hys.out]; exact HO9.out⟩, by rw [appFound_snoc, ← Hfo.out]; exact HF9.out.blk HIf.out HLT.out.2.2.2.1 (by decide), HF9.out.blk HIm.out HLT.out.2.2.2.2.1 (by decide), HF9.out.map HMp.out HLT.out.2.1 HLT.out.2.2.2.2.2.1, HF9.out.blk HI1.out HLT.out.2.2.2.2.2.2.1 (by decide), HF9.out.blk HI2.out HLT.out.2.2.2.2.2.2.2 (by decide)⟩⟩
      | false =>
        have p5 : W.cell? ⟨b, 5, none⟩ = some (.bool false) := blk_at HPx.out 5 rfl
        have hisL : isL = true := by
          cases isL with
          | true => rfl
          | false => have := HMEM.out.2.2 (by first | rfl | trivial); first | cases this | exact this.elim | (simp at this)
        subst hisL
        refine regF_ (free_round l) (by kernel_rfl) (by rintro ⟨_, _, h⟩; exact h) ?_
        go_wp2_with (fail)
        clear p5
        refine wpIn_cond_false rfl (wpIn_seq ?_)
        have HOC := Lib.hid (chkCells_ok cs none HOK.out.2.1 vl (HMEM.out.1 (by first | rfl | trivial)))
        have hlook := HMp.out.look (t := 65) Try.underlying65 Try.underlying9 Try.underlying3 (Try.zeroValue3 W) vl.f0 (small_max HOC.out.1)
        have p0 : W.cell? ⟨b, 0, none⟩ = some (.string vl.f0) := blk_at HPx.out 0 rfl
        have q0 : W.cell? ⟨bm, 0, none⟩ = some (.map (some mb)) := blk_at HIm.out 0 rfl
        by_cases hfg : fG gone vl.f0 = 1
        · rw [hfg] at hlook
          have HFG := Lib.hid hfg
          clear hfg
          refine regF_ (free_round l) (by kernel_rfl) (by rintro ⟨_, _, h⟩; exact h) ?_
          go_wp2_with (fail)
          clear hlook p0 q0
          refine wpIn_cond_true rfl ?_
          have q1 : W.cell? ⟨bf, 0, none⟩ = some (.int .i64 (fo : Nat)) := blk_at HIf.out 0 rfl
          have q2 : W.frozen? ⟨bf, 0, none⟩ = false := blk_frozen HIf.out 0
          refine regF_ (free_round l) (by kernel_rfl) (by rintro ⟨_, _, h⟩; exact h) ?_
          go_wp2_with (fail)
          clear q1 q2
          have hg : ∀ k cs' t', W.heap[k]? = some (.cells cs' t' (0, 0)) → k ≠ bf → (W.setCell ⟨bf, 0, none⟩ (.int .i64 ((fo : Int) + 1))).heap[k]? = some (.cells cs' t' (0, 0)) := fun k cs' t' h1 h2 => (Below.heap_setCell _ _ _ _ h2).trans h1
          have hne : bf ≠ bt ∧ bm ≠ bf ∧ mb ≠ bf ∧ g1 ≠ bf ∧ g2 ≠ bf ∧ w.heap.size ≤ bf ∧ bt ≠ bf := by have := HLT.out; have := HTF.out; have := HE.out; omega
          refine ⟨Rnd.set HIf.out (.inr rfl) _, Eq.mpr (congrArg (fun z => IApp w w4.heap.size g1 g2 bt bf bm mb dnum #[.int .i64 dnum, .slice B m cb, .slice G p cg] gone z (W.setCell ⟨bf, 0, none⟩ (.int .i64 ((fo : Int) + 1)))) HPM.out)  ⟨HBW.out.setCell hne.2.2.2.2.2.1 _, by rw [World.size_setCell]; exact HLW.out, ⟨_, hg _ _ _ HT.out hne.2.2.2.2.2.2, ?_⟩, ?_, hg _ _ _ HIm.out hne.2.1, HMp.out.move (Below.heap_setCell _ _ _ _ hne.2.2.1), hg _ _ _ HI1.out hne.2.2.2.1, hg _ _ _ HI2.out hne.2.2.2.2.1⟩⟩
          · rw [appCells_snoc]
            have hk : appKeep gone ⟨vl, vr, true, false⟩ = none := by unfold appKeep; simp [HFG.out]
            rw [hk, ← Hys.out]
            exact Kd.R_set HO.out HIf.out (by decide) 0 _
          · rw [appFound_snoc, ← Hfo.out]
            simp only [HFG.out, decide_true, Bool.not_false, Bool.and_self, if_true]
            exact blk_put HIf.out 0 _ (by simp)
        · have HFG := Lib.hid hfg
          generalize hzf : fG gone vl.f0 = zf at hlook hfg
          clear hzf
          have k1 : (zf == 1) = false := beq_false_of_ne hfg
          clear hfg
          refine regF_ (free_round l) (by kernel_rfl) (by rintro ⟨_, _, h⟩; exact h) ?_
          go_wp2_with (fail)
          clear hlook p0 q0 k1
          refine wpIn_cond_false rfl ?_
          have HCP : Hid (∀ V, Below w.heap.size w V → Calls Try.prog 37 #[.agg #[.string vl.f0, .slice la nl lc]] V fun e w' => Copied vl V e w') := Lib.hid (fun V hV => by rw [Hnl.out]; exact copied37 vl la lc V (Kd.C_below CL.out.1 hV) CL.out.2 HOC.out)
          have Hnc := Hnl
          have hk : appKeep gone ⟨vl, vr, true, false⟩ = some vl := by unfold appKeep; simp [HFG.out]
          have HKK := Lib.hid hk
          have hk2 : (if !false && decide (fG gone vl.f0 = 1) then 1 else 0 : Nat) = 0 := by simp [HFG.out]
          have HK2 := Lib.hid hk2
          clear hk hk2
          refine startIn_ (m := 9) (S := (fun w' => w'.cell? ⟨bt, 1, none⟩ = some (.slice At nt ct) ∧ w'.cell? ⟨b, 0, none⟩ = some (.string vl.f0) ∧ w'.cell? ⟨b, 1, none⟩ = some (.slice la nl lc))) (ds := [8]) (free_round _) (by kernel_rfl) (by rintro ⟨_, _, h⟩; exact h) #[false, false, false, false, false, false, false, false, false] (by kernel_rfl) rfl rfl ⟨blk_at HT.out 1 rfl, blk_at HPx.out 0 rfl, blk_at HPx.out 1 rfl⟩ (fun hHeld => ?_)
          have HTd : Hid (W.drew.heap[bt]? = some (.cells #[.int .i64 dnum, .slice At nt ct] 24 (0, 0))) := HT.out
          have HPd : Hid (W.drew.heap[b]? = some (.cells #[.string vl.f0, .slice la nl lc, .string vr.f0, .slice ra nr rc, .bool true, .bool false] 71 (0, 0))) := HPx.out
          have HOd := Lib.hid (Kd.R_drew HO.out)
          have HBd : Hid (Below w.heap.size w W.drew) := HBW.out.drew
          have HLd : Hid (w4.heap.size ≤ W.drew.heap.size) := HLW.out
          have HFd : Hid (Oth w4.heap.size bt 63 W W.drew) := Oth.of_below (Below.refl _ _).drew
          generalize W.drew = Wd at hHeld HTd HPd HOd HBd HLd HFd ⊢
          refine pure_ (i := 0) (N := some 46) (v := ?_) (a' := ?_) #[true, false, false, false, false, false, false, false, false] rfl rfl (by kernel_rfl) (fun _ _ _ h => h) (Or.inl ⟨by rfl, ?_⟩) ?_ ?_
          rotate_left
          · intro w'
            go_simp
            with_reducible rfl
          rotate_left
          · simp only [Act.put, List.setIfInBounds_toArray, List.set_cons_zero, List.set_cons_succ]
            rfl
          refine take_ (i := 1) (N := some 47) (v := ?_) (a' := ?_) #[true, true, false, false, false, false, false, false, false] rfl rfl (by kernel_rfl) (fun _ _ _ h => h) (Or.inl ⟨by rfl, ?_⟩) hHeld ?_ ?_
          rotate_left
          · rintro w' ⟨s0, s1, s2⟩
            go_simp
            with_reducible rfl
          rotate_left
          · simp only [Act.put, List.setIfInBounds_toArray, List.set_cons_zero, List.set_cons_succ]
            rfl
          refine pure_ (i := 2) (N := some 48) (v := ?_) (a' := ?_) #[true, true, true, false, false, false, false, false, false] rfl rfl (by kernel_rfl) (fun _ _ _ h => h) (Or.inl ⟨by rfl, ?_⟩) ?_ ?_
          rotate_left
          · intro w'
            go_simp
            with_reducible rfl
          rotate_left
          · simp only [Act.put, List.setIfInBounds_toArray, List.set_cons_zero, List.set_cons_succ]
            rfl
          refine take_ (i := 3) (N := some 49) (v := ?_) (a' := ?_) #[true, true, true, true, false, false, false, false, false] rfl rfl (by kernel_rfl) (fun _ _ _ h => h) (Or.inl ⟨by rfl, ?_⟩) hHeld ?_ ?_
          rotate_left
          · rintro w' ⟨s0, s1, s2⟩
            go_simp
            with_reducible rfl
          rotate_left
          · simp only [Act.put, List.setIfInBounds_toArray, List.set_cons_zero, List.set_cons_succ]
            rfl
          refine one_ (i := 4) (N := some 50) #[true, true, true, true, true, false, false, false, false] rfl rfl (by kernel_rfl) (by decide) (fun K hK => ?_)
          refine goes_ Try.func37 (by kernel_rfl) rfl #[.agg #[.string vl.f0, .slice la nl lc]] (by rfl) rfl rfl (by simp only [List.map_toArray, List.map_cons, List.map_nil]; rfl) ?_
          refine (HCP.out Wd HBd.out).mono ?_
          rintro e W1 ⟨v, rfl, hv, hb⟩
          obtain ⟨Av, cv, hvv⟩ := Kd.R_slice hv.out
          rw [← Hnc.out] at hvv
          subst hvv
          refine ⟨_, rfl, ?_⟩
          have HT1 := Lib.hid (blk_below HTd.out hb.out)
          have HP1 := Lib.hid (blk_below HPd.out hb.out)
          have HO1 := Lib.hid (Kd.R_below HOd.out hb.out)
          have HF1 : Hid (Oth w4.heap.size bt 63 W W1) := HFd.out.trans (Oth.of_below hb.out)
          have HV1 := Lib.hid hv.out
          have HL1 := Lib.hid hb.out.size
          refine hK.out _ _ ⟨blk_at HT1.out 1 rfl, blk_at HP1.out 0 rfl, blk_at HP1.out 1 rfl⟩ (fun hHeld => ?_)
          clear hK K hb hv HTd HPd HFd HBd
          refine norm_ (a' := ?_) ?_ ?_
          rotate_left
          · show Act.put _ (some 50) _ = _
            simp only [Act.put, List.setIfInBounds_toArray, List.set_cons_zero, List.set_cons_succ]
            rfl
          refine one_ (i := 5) (N := some 51) #[true, true, true, true, true, true, false, false, false] rfl rfl (by kernel_rfl) (by decide) (fun K hK => ?_)
          refine value_ (w1 := (W1.alloc (.cells [.string vl.f0, .slice Av nl cv].toArray 63))) (v := .slice (some ⟨W1.heap.size, 0, none⟩) 1 1) (by rfl) rfl (by go_simp) ?_
          refine hK.out _ _ ⟨pw_cell_below ((Below.refl _ _).alloc (Nat.le_refl _) _) hHeld.1, pw_cell_below ((Below.refl _ _).alloc (Nat.le_refl _) _) hHeld.2.1, pw_cell_below ((Below.refl _ _).alloc (Nat.le_refl _) _) hHeld.2.2⟩ (fun hHeld => ?_)
          clear hK K
          refine norm_ (a' := ?_) ?_ ?_
          rotate_left
          · show Act.put _ (some 51) _ = _
            simp only [Act.put, List.setIfInBounds_toArray, List.set_cons_zero, List.set_cons_succ]
            rfl
          refine one_ (i := 6) (N := some 52) #[true, true, true, true, true, true, true, false, false] rfl rfl (by kernel_rfl) (by decide) (fun K hK => ?_)
          refine Kd.R_append_step k63 (w0 := W1) w4.heap.size (by rfl) (.tmp 47) (.tmp 51) 22 63 (.agg #[.string ⟨#[]⟩, .slice none 0 0]) 40 rfl Try.underlying22 info63' rfl (by decide) (by decide) (.slice At nt ct) ys vl _ (fun _ => True) (fun k => Wd.heap.size ≤ k) rfl rfl ?hp ?hok (fun _ _ => trivial) HO1.out (Below.refl _ _) ?hS ?hl ?_
          case hp => exact k63_mkM _ _ _ vl (Kd.R_lower (Kd.R_mono (Kd.R_bound HV1.out) (fun k hk => hk.2.1)) HLd.out)
          case hok => exact fun k hk => ⟨trivial, fun he => by have := Kd.R_lt HOd.out k he.symm; omega⟩
          case hS => exact Nat.le_trans HLd.out HL1.out
          case hl => have := Hlim.out; omega
          intro v1 W2 hO2 hB2 hg2 hat2
          have HF2 : Hid (Oth w4.heap.size bt 63 W W2) := HF1.out.trans (Oth.grown hg2 (fun k hk => ⟨Kd.R_base HO1.out k hk, Kd.R_typed HO1.out k hk⟩))
          have HT2 := Lib.hid (blk_grown HT1.out hg2 (Kd.R_ne HO1.out HT1.out (by decide)))
          have HP2 := Lib.hid (blk_grown HP1.out hg2 (Kd.R_ne HO1.out HP1.out (by decide)))
          obtain ⟨A2, c2, hv2⟩ := Kd.R_slice hO2
          obtain ⟨m2, hm2⟩ : ∃ m2, m2 = (ys ++ [vl]).length := ⟨_, rfl⟩
          rw [← hm2] at hv2
          subst hv2
          have Hm2 := Lib.hid hm2
          have HO2 := Lib.hid hO2
          refine hK.out _ _ ⟨blk_at HT2.out 1 rfl, blk_at HP2.out 0 rfl, blk_at HP2.out 1 rfl⟩ (fun hHeld => ?_)
          clear hK K hO2 hB2 hg2 hat2 hm2 HT1 HP1 HO1 HF1 HV1 HL1 HOd HLd
          refine norm_ (a' := ?_) ?_ ?_
          rotate_left
          · show Act.put _ (some 52) _ = _
            simp only [Act.put, List.setIfInBounds_toArray, List.set_cons_zero, List.set_cons_succ]
            rfl
          refine pure_ (i := 7) (N := some 53) (v := ?_) (a' := ?_) #[true, true, true, true, true, true, true, true, false] rfl rfl (by kernel_rfl) (fun _ _ _ h => h) (Or.inl ⟨by rfl, ?_⟩) ?_ ?_
          rotate_left
          · intro w'
            go_simp
            with_reducible rfl
          rotate_left
          · simp only [Act.put, List.setIfInBounds_toArray, List.set_cons_zero, List.set_cons_succ]
            rfl
          refine last_ (i := 8) (N := none) #[true, true, true, true, true, true, true, true, true] rfl rfl (by kernel_rfl) (by decide) (fun K hK => ?_)
          have x1 : W2.cell? ⟨bt, 1, none⟩ = some (.slice At nt ct) := blk_at HT2.out 1 rfl
          have z1 : W2.frozen? ⟨bt, 1, none⟩ = false := blk_frozen HT2.out 1
          refine skip_ (w1 := W2.setCell ⟨bt, 1, none⟩ (.slice A2 m2 c2)) (by rfl) rfl (by go_simp) ?_
          clear x1 z1
          refine hK.out _ _ ?_
          have HT9 : Hid ((W2.setCell ⟨bt, 1, none⟩ (.slice A2 m2 c2)).heap[bt]? = some (.cells #[.int .i64 dnum, .slice A2 m2 c2] 24 (0, 0))) := blk_put HT2.out 1 _ rfl
          have HO9 := Lib.hid (Kd.R_set HO2.out HT2.out (by decide) 1 (.slice A2 m2 c2))
          have HF9 : Hid (Oth w4.heap.size bt 63 W (W2.setCell ⟨bt, 1, none⟩ (.slice A2 m2 c2))) := HF2.out.trans (Oth.set 1 _)
          clear hK K HT2 HP2 HO2 HF2 hHeld
          generalize W2.setCell ⟨bt, 1, none⟩ (.slice A2 m2 c2) = W9 at *
          refine done_ (by kernel_rfl) ?_
          exact ⟨HF9.out.rnd (.inl rfl) HLW.out HT.out, Eq.mpr (congrArg (fun z => IApp w w4.heap.size g1 g2 bt bf bm mb dnum #[.int .i64 dnum, .slice B m cb, .slice G p cg] gone z W9) HPM.out)  ⟨HF9.out.below HBW.out HLT.out.1 HLT.out.2.2.1, Nat.le_trans HLW.out HF9.out.size, ⟨_, HT9.out, by rw [appCells_snoc, HKK.out, ← Hys.out]; exact HO9.out⟩, by rw [appFound_snoc, ← Hfo.out, HK2.out]; exact HF9.out.blk HIf.out HLT.out.2.2.2.1 (by decide), HF9.out.blk HIm.out HLT.out.2.2.2.2.1 (by decide), HF9.out.map HMp.out HLT.out.2.1 HLT.out.2.2.2.2.2.1, HF9.out.blk HI1.out HLT.out.2.2.2.2.2.2.1 (by decide), HF9.out.blk HI2.out HLT.out.2.2.2.2.2.2.2 (by decide)⟩⟩
    case done =>
      intro D xs W hD hS hI hK
      have hxs : plC xs = mrgC cs set := hS
      rw [hxs] at hI
      obtain ⟨ib, isz, ⟨vt, it, irow⟩, if_, im, imp, i1, i2⟩ := hI
      have hlim := mrgC_le _ cs set (Nat.le_refl _)
      obtain ⟨ys, hys⟩ : ∃ ys, ys = appCells gone (mrgC cs set) := ⟨_, rfl⟩
      obtain ⟨fo, hfo⟩ : ∃ fo, fo = appFound gone (mrgC cs set) := ⟨_, rfl⟩
      have hfo8 : fo ≤ 128 := by rw [hfo]; have := appFound_le gone (mrgC cs set); have := Hn.out; have := Hm.out; omega
      have hys8 : ys.length ≤ 128 := by rw [hys]; have := appCells_le gone (mrgC cs set); have := Hn.out; have := Hm.out; omega
      have HR0 : Hid (applyP num cs dnum set gone = if fo < gone.length then (0, [], 110) else if 64 < ys.length then (0, [], 111) else (dnum, ys, 0)) := Lib.hid (by unfold applyP; rw [if_neg (by rw [HZ1.out]; simp), if_neg (by rw [HZ2.out]; simp), ← hfo, ← hys])
      rw [← hys] at irow
      rw [← hfo] at if_
      obtain ⟨At, ct, hvt⟩ := Kd.R_slice irow
      obtain ⟨nt, hnt⟩ : ∃ nt, nt = ys.length := ⟨_, rfl⟩
      rw [← hnt] at hvt
      subst hvt
      have Hnt := Lib.hid hnt
      have HBW := Lib.hid ib
      have HI2 := Lib.hid i2
      have HO := Lib.hid irow
      have HTt := Lib.hid it
      have HK := Lib.hid hK
      have hg2 : w.heap.size ≤ g2 ∧ g2 < w4.heap.size ∧ g2 ≠ bt := by have := HS4.out; have := HTF.out; have := HE.out; omega
      have c0 : W.cell? ⟨bf, 0, none⟩ = some (.int .i64 (fo : Nat)) := blk_at if_ 0 rfl
      have c1 : W.cell? ⟨g1, 2, none⟩ = some (.slice G p cg) := blk_at i1 2 rfl
      have c2 : W.cell? ⟨bt, 0, none⟩ = some (.int .i64 dnum) := blk_at it 0 rfl
      have c3 : W.cell? ⟨bt, 1, none⟩ = some (.slice At nt ct) := blk_at it 1 rfl
      have c4 : W.cell? ⟨g2, 0, none⟩ = some (.int .i64 0) := blk_at i2 0 rfl
      have c5 : W.cell? ⟨g2, 1, none⟩ = some (.slice none 0 0) := blk_at i2 1 rfl
      have z4 : W.frozen? ⟨g2, 0, none⟩ = false := blk_frozen i2 0
      have z5 : W.frozen? ⟨g2, 1, none⟩ = false := blk_frozen i2 1
      clear hys hfo hnt ib isz it irow if_ im imp i1 i2 hxs hS hlim hK
      by_cases h1 : fo < p
      · have k1 : decide ((fo : Int) < (p : Int)) = true := decide_eq_true (by omega)
        have k1' : decide (fo < p) = true := decide_eq_true h1
        have HR : Hid (applyP num cs dnum set gone = (0, [], 110)) := Lib.hid (HR0.out.trans (if_pos (by rw [← Hp.out]; exact h1)))
        clear h1
        go_wp2_with (fail)
        have hb4 : ((W.setCell ⟨g2, 0, none⟩ (.int .i64 0)).setCell ⟨g2, 1, none⟩ (.slice none 0 0)).heap[g2]? = some (.cells #[.int .i64 0, .slice none 0 0] 24 (0, 0)) := blk_put (blk_put HI2.out 0 _ rfl) 1 _ rfl
        have hK4 : ((W.setCell ⟨g2, 0, none⟩ (.int .i64 0)).setCell ⟨g2, 1, none⟩ (.slice none 0 0)).heap[D]? = some (.deferred (some [])) := (Below.heap_setCell _ _ _ _ (show D ≠ g2 by omega)).trans ((Below.heap_setCell _ _ _ _ (show D ≠ g2 by omega)).trans HK.out)
        have hb5 : (((W.setCell ⟨g2, 0, none⟩ (.int .i64 0)).setCell ⟨g2, 1, none⟩ (.slice none 0 0)).putObj D (.deferred none)).heap[g2]? = some (.cells #[.int .i64 0, .slice none 0 0] 24 (0, 0)) := (World.putObj_heap_other (by omega)).trans hb4
        have ht5 : Turn w4.heap.size ((W.setCell ⟨g2, 0, none⟩ (.int .i64 0)).setCell ⟨g2, 1, none⟩ (.slice none 0 0)) (((W.setCell ⟨g2, 0, none⟩ (.int .i64 0)).setCell ⟨g2, 1, none⟩ (.slice none 0 0)).putObj D (.deferred none)) := Turn.of (grownBy_putObj' _ D _) (fun r e => by cases e; exact ⟨hD, _, hK4, rfl⟩)
        have hw5 : Below w.heap.size w (((W.setCell ⟨g2, 0, none⟩ (.int .i64 0)).setCell ⟨g2, 1, none⟩ (.slice none 0 0)).putObj D (.deferred none)) := Below.turn ((HBW.out.setCell (show w.heap.size ≤ g2 by omega) _).setCell (show w.heap.size ≤ g2 by omega) _) ht5 hc0.size
        refine bodyD_one rfl hK4 (bodyPost_ret (results_list (rs := [.cell 4 24, .tmp 5]) (vs := [.agg #[.int .i64 0, .slice none 0 0], .int .i64 110]) rfl (by simp) (.cell g2 24 #[.int .i64 0, .slice none 0 0] (0, 0) _ rfl hb5 Try.underlying24 rfl (by kernel_rfl) (.tmp .nil))) rfl ?_)
        rw [HR.out]
        exact ⟨.slice none 0 0, rfl, Lib.hid (Kd.R_nil _ _ _ _ _), Lib.hid hw5⟩
      have k1 : decide ((fo : Int) < (p : Int)) = false := decide_eq_false (by omega)
      have k1' : decide (fo < p) = false := decide_eq_false h1
      replace HR0 : Hid (applyP num cs dnum set gone = if 64 < ys.length then (0, [], 111) else (dnum, ys, 0)) := Lib.hid (HR0.out.trans (if_neg (by rw [← Hp.out]; exact h1)))
      clear h1
      by_cases h2 : 64 < nt
      · have k2 : decide (64 < (nt : Int)) = true := decide_eq_true (by omega)
        have HR : Hid (applyP num cs dnum set gone = (0, [], 111)) := Lib.hid (HR0.out.trans (if_pos (by rw [← Hnt.out]; exact h2)))
        clear h2
        go_wp2_with (fail)
        have hb4 : ((W.setCell ⟨g2, 0, none⟩ (.int .i64 0)).setCell ⟨g2, 1, none⟩ (.slice none 0 0)).heap[g2]? = some (.cells #[.int .i64 0, .slice none 0 0] 24 (0, 0)) := blk_put (blk_put HI2.out 0 _ rfl) 1 _ rfl
        have hK4 : ((W.setCell ⟨g2, 0, none⟩ (.int .i64 0)).setCell ⟨g2, 1, none⟩ (.slice none 0 0)).heap[D]? = some (.deferred (some [])) := (Below.heap_setCell _ _ _ _ (show D ≠ g2 by omega)).trans ((Below.heap_setCell _ _ _ _ (show D ≠ g2 by omega)).trans HK.out)
        have hb5 : (((W.setCell ⟨g2, 0, none⟩ (.int .i64 0)).setCell ⟨g2, 1, none⟩ (.slice none 0 0)).putObj D (.deferred none)).heap[g2]? = some (.cells #[.int .i64 0, .slice none 0 0] 24 (0, 0)) := (World.putObj_heap_other (by omega)).trans hb4
        have ht5 : Turn w4.heap.size ((W.setCell ⟨g2, 0, none⟩ (.int .i64 0)).setCell ⟨g2, 1, none⟩ (.slice none 0 0)) (((W.setCell ⟨g2, 0, none⟩ (.int .i64 0)).setCell ⟨g2, 1, none⟩ (.slice none 0 0)).putObj D (.deferred none)) := Turn.of (grownBy_putObj' _ D _) (fun r e => by cases e; exact ⟨hD, _, hK4, rfl⟩)
        have hw5 : Below w.heap.size w (((W.setCell ⟨g2, 0, none⟩ (.int .i64 0)).setCell ⟨g2, 1, none⟩ (.slice none 0 0)).putObj D (.deferred none)) := Below.turn ((HBW.out.setCell (show w.heap.size ≤ g2 by omega) _).setCell (show w.heap.size ≤ g2 by omega) _) ht5 hc0.size
        refine bodyD_one rfl hK4 (bodyPost_ret (results_list (rs := [.cell 4 24, .tmp 5]) (vs := [.agg #[.int .i64 0, .slice none 0 0], .int .i64 111]) rfl (by simp) (.cell g2 24 #[.int .i64 0, .slice none 0 0] (0, 0) _ rfl hb5 Try.underlying24 rfl (by kernel_rfl) (.tmp .nil))) rfl ?_)
        rw [HR.out]
        exact ⟨.slice none 0 0, rfl, Lib.hid (Kd.R_nil _ _ _ _ _), Lib.hid hw5⟩
      have k2 : decide (64 < (nt : Int)) = false := decide_eq_false (by omega)
      have HR : Hid (applyP num cs dnum set gone = (dnum, ys, 0)) := Lib.hid (HR0.out.trans (if_neg (by rw [← Hnt.out]; exact h2)))
      clear h2
      go_wp2_with (fail)
      have hb4 : ((W.setCell ⟨g2, 0, none⟩ (.int .i64 dnum)).setCell ⟨g2, 1, none⟩ (.slice At nt ct)).heap[g2]? = some (.cells #[.int .i64 dnum, .slice At nt ct] 24 (0, 0)) := blk_put (blk_put HI2.out 0 _ rfl) 1 _ rfl
      have hK4 : ((W.setCell ⟨g2, 0, none⟩ (.int .i64 dnum)).setCell ⟨g2, 1, none⟩ (.slice At nt ct)).heap[D]? = some (.deferred (some [])) := (Below.heap_setCell _ _ _ _ (show D ≠ g2 by omega)).trans ((Below.heap_setCell _ _ _ _ (show D ≠ g2 by omega)).trans HK.out)
      have hb5 : (((W.setCell ⟨g2, 0, none⟩ (.int .i64 dnum)).setCell ⟨g2, 1, none⟩ (.slice At nt ct)).putObj D (.deferred none)).heap[g2]? = some (.cells #[.int .i64 dnum, .slice At nt ct] 24 (0, 0)) := (World.putObj_heap_other (by omega)).trans hb4
      have ht5 : Turn w4.heap.size ((W.setCell ⟨g2, 0, none⟩ (.int .i64 dnum)).setCell ⟨g2, 1, none⟩ (.slice At nt ct)) (((W.setCell ⟨g2, 0, none⟩ (.int .i64 dnum)).setCell ⟨g2, 1, none⟩ (.slice At nt ct)).putObj D (.deferred none)) := Turn.of (grownBy_putObj' _ D _) (fun r e => by cases e; exact ⟨hD, _, hK4, rfl⟩)
      have hw5 : Below w.heap.size w (((W.setCell ⟨g2, 0, none⟩ (.int .i64 dnum)).setCell ⟨g2, 1, none⟩ (.slice At nt ct)).putObj D (.deferred none)) := Below.turn ((HBW.out.setCell (show w.heap.size ≤ g2 by omega) _).setCell (show w.heap.size ≤ g2 by omega) _) ht5 hc0.size
      refine bodyD_one rfl hK4 (bodyPost_ret (results_list (rs := [.cell 4 24, .tmp 5]) (vs := [.agg #[.int .i64 dnum, .slice At nt ct], .int .i64 0]) rfl (by simp) (.cell g2 24 #[.int .i64 dnum, .slice At nt ct] (0, 0) _ rfl hb5 Try.underlying24 rfl (by kernel_rfl) (.tmp .nil))) rfl ?_)
      rw [HR.out]
      exact ⟨.slice At nt ct, rfl, Lib.hid (Kd.R_lower (R_turn (Kd.R_set (Kd.R_set HO.out HI2.out (by decide) 0 _) (blk_put HI2.out 0 _ rfl) (by decide) 1 _) ht5) hc0.size), Lib.hid hw5⟩
    case stop =>
      intro D c pre W _ _ h _
      exact h.elim
end Go.Proofs.Ytpplnhefpcofoaa.PDeltaJoin
