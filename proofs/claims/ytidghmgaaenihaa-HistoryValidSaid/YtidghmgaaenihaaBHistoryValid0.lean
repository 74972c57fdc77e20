/- Texts of this claim, packed: HRange, HPend, PRegs, RInsert, Q97, Q79, Q67, RFind, REvent, RValid, PValid, Q33, ROps, Q56, Q93, RSrc, RSeen, RSurvives, RStale, RTrace, RSurv, PSurv, RRegs, Iter, Shelf. -/
import Derived.Maps.RangeRun
import Derived.Test.YtidghmgaaenihaaHMap2
import Derived.Maps.RangeWalk
import Derived.Test.YtidghmgaaenihaaHOps
import Derived.Test.YtidghmgaaenihaaHSurv
import Derived.Test.YtidghmgaaenihaaHTrace
import Derived.Deep.RegionHeld3
import Derived.Test.YtidghmgaaenihaaQ0
import Derived.Test.YtidghmgaaenihaaHIndex
import Derived.Test.YtidghmgaaenihaaHPlain
import Derived.Test.YtidghmgaaenihaaHMap
import Derived.Test.YtidghmgaaenihaaHParse
import Derived.Test.YtidghmgaaenihaaHClos
import Derived.Test.YtidghmgaaenihaaHCert
import Derived.Shelf.SlIterI.Nil
import Derived.Test.YtidghmgaaenihaaProg
import Derived.Shelf.Sort.Plain
import Derived.Shelf.Slices.In.SortNone
/-! part HRange -/
namespace Go.Proofs.Ytidghmgaaenihaa.Q
open Go.RowKit Go.Proofs.YtidghmgaaenihaaW.PrintWords Go.Proofs.YtidghmgaaenihaaW.PrintLast Go.Proofs.YtidghmgaaenihaaW.PrintMore
set_option linter.unusedVariables false
set_option linter.unusedSimpArgs false

/-- The entries' stamps are their places. -/
def StampAt (es : List MapEntry) : Prop := ∀ (j : Nat) (e : MapEntry), es[j]? = some e → e.born = j
/-- A range under way: 'vis' are the places of the entries that came. -/
structure MapIt (w : World) (B r : Nat) (es : List MapEntry) (vis : List Nat) : Prop where
  blk : w.heap[B]? = some (.map es.toArray es.length)
  it : ∃ c0, es.length ≤ c0 ∧ w.heap[r]? = some (.mapIter (some B) es.length vis.toArray c0)
  st : StampAt es
  nd : vis.Nodup
  lt : ∀ j ∈ vis, j < es.length
section
variable {P : Program} {w w1 : World} {B r : Nat} {es : List MapEntry} {vis : List Nat}
theorem MapIt.ne (h : MapIt w B r es vis) : r ≠ B := by
  obtain ⟨c0, _, hr⟩ := h.it
  intro e; rw [e, h.blk] at hr; cases hr
theorem MapIt.below (h : MapIt w B r es vis) (hb : Below w.heap.size w w1) : MapIt w1 B r es vis := by
  obtain ⟨c0, hc, hr⟩ := h.it
  exact ⟨blk_old h.blk hb, ⟨c0, hc, blk_old hr hb⟩, h.st, h.nd, h.lt⟩
theorem MapIt.grown (h : MapIt w B r es vis) {row : Option Nat} (hg : w.grownBy w1 row) (h1 : some B ≠ row) (h2 : some r ≠ row) : MapIt w1 B r es vis := by
  obtain ⟨c0, hc, hr⟩ := h.it
  exact ⟨blk_grown h.blk hg h1, ⟨c0, hc, blk_grown hr hg h2⟩, h.st, h.nd, h.lt⟩
theorem mem_stamp {es : List MapEntry} (hs : StampAt es) {e : MapEntry} (he : e ∈ es) : es[e.born]? = some e := by
  obtain ⟨j, hj⟩ := List.getElem?_of_mem he
  rw [hs j e hj]; exact hj
theorem stamp_nodup {es : List MapEntry} (hs : StampAt es) : (es.map (·.born)).Nodup := by
  have : es.map (·.born) = List.range es.length := by
    apply List.ext_getElem
    · simp
    · intro i h1 h2
      simp only [List.getElem_map, List.getElem_range]
      exact hs i _ (List.getElem?_eq_getElem (by simpa using h1))
  rw [this]; exact List.nodup_range
variable {ops : Array Oper} {rest : List Oper} {o : Oper} {a : Act} {Q : Exit → Act → World → Prop}
/-- 'range m'. -/
theorem at_range_map (hgd : o.guard = none) (m : Operand) (t k e : TypeId) (hop : o.op = Op.range t m) (ht : P.underlying t = some (.map k e)) (hm : a.eval m = .map (some B)) (hb : w.heap[B]? = some (.map es.toArray es.length)) (hs : StampAt es)
    (hK : ∀ w1, MapIt w1 B w.heap.size es [] → Below w.heap.size w w1 → w1.heap.size = w.heap.size + 1 → wpList P ops Q rest (a.put o.dst (.pointer (some ⟨w.heap.size, 0, none⟩))) w1) :
    wpList P ops Q (o :: rest) a w := by
  refine wpList_plain hgd fun K' hK' => ?_
  unfold Oper.wp
  simp [execOp, hop, hm, run_range_map w t k e B es.toArray es.length ht hb, Result.andThen]
  refine hK' _ _ (hK _ ⟨blk_old hb (below_alloc (Below.refl _ _) _), ⟨es.length, Nat.le_refl _, blk_new w _⟩, hs, List.nodup_nil, fun j hj => by cases hj⟩ (below_alloc (Below.refl _ _) _) (by simp))
/-- 'next'. -/
theorem at_next_map (hgd : o.guard = none) (it : Operand) (hop : o.op = Op.next it false) (hit : a.eval it = .pointer (some ⟨r, 0, none⟩)) (h : MapIt w B r es vis)
    (hDone : (∀ j, j < es.length → j ∈ vis) → wpList P ops Q rest (a.put o.dst (.tuple #[.bool false])) w)
    (hMore : ∀ (j : Nat) (e : MapEntry) (w1 : World), j ∉ vis → es[j]? = some e → MapIt w1 B r es (vis ++ [j]) → (∀ k, k ≠ r → w1.heap[k]? = w.heap[k]?) → w1.heap.size = w.heap.size → w.grownBy w1 (some r) →
      (Instr.entry (.pointer (some ⟨r, 0, none⟩))).run P w1 = .ok (.tuple #[e.key, e.val]) w1 → wpList P ops Q rest (a.put o.dst (.tuple #[.bool true, e.key, e.val])) w1) :
    wpList P ops Q (o :: rest) a w := by
  refine wpList_plain hgd fun K' hK' => ?_
  unfold Oper.wp
  have hne := h.ne
  obtain ⟨c0, hc, hr⟩ := h.it
  have hold : ∀ x ∈ es.toArray.toList, x.born < es.length := by
    intro x hx
    have := mem_stamp h.st (show x ∈ es by simpa using hx)
    exact (List.getElem?_eq_some_iff.1 this).1
  have hrl := blk_lt hr
  rcases run_next_at (P := P) w o.type r B es.length c0 vis.toArray es.toArray es.length hr h.blk hold hc with ⟨h0, hrun⟩ | ⟨e, he, w1, hal, hrun⟩
  · simp [execOp, hop, hit, hrun, Result.andThen]
    refine hK' _ _ (hDone fun j hj => ?_)
    have hsz : ∀ x ∈ es, x.born ∈ vis := by
      intro x hx
      unfold leftOf at h0
      have := Array.filter_eq_empty_iff.1 (Array.eq_empty_of_size_eq_zero h0) x (by simpa using hx)
      simpa using this
    have := hsz _ (List.getElem_mem hj)
    rwa [h.st j _ (List.getElem?_eq_getElem hj)] at this
  · have hme : e ∈ es ∧ e.born ∉ vis := by
      unfold leftOf at he
      simpa using he
    have hat := mem_stamp h.st hme.1
    have hrw : w1.heap[r]? = some (.mapIter (some B) es.length vis.toArray c0) := by rcases hal with rfl | rfl <;> exact hr
    have hbw : w1.heap[B]? = some (.map es.toArray es.length) := by rcases hal with rfl | rfl <;> exact h.blk
    have hsw : w1.heap.size = w.heap.size := by rcases hal with rfl | rfl <;> rfl
    have hpush : vis.toArray.push e.born = (vis ++ [e.born]).toArray := by simp
    rw [hpush] at hrun
    have hr2 : (ChangeMaps.setBlock w1 r (.mapIter (some B) es.length (vis ++ [e.born]).toArray es.length)).heap[r]? = some (.mapIter (some B) es.length (vis ++ [e.born]).toArray es.length) := by
      rw [heap_setBlock _ (by rw [hsw]; exact hrl), if_pos rfl]
    have hb2 : (ChangeMaps.setBlock w1 r (.mapIter (some B) es.length (vis ++ [e.born]).toArray es.length)).heap[B]? = some (.map es.toArray es.length) := by
      rw [heap_setBlock _ (by rw [hsw]; exact hrl), if_neg (Ne.symm hne)]; exact hbw
    simp [execOp, hop, hit, hrun, Result.andThen]
    have hlt : e.born < es.length := (List.getElem?_eq_some_iff.1 hat).1
    have hkeep : ∀ k, k ≠ r → (ChangeMaps.setBlock w1 r (.mapIter (some B) es.length (vis ++ [e.born]).toArray es.length)).heap[k]? = w.heap[k]? := by
      intro k hk
      rw [heap_setBlock _ (by rw [hsw]; exact hrl), if_neg hk]
      rcases hal with rfl | rfl <;> rfl
    refine hK' _ _ (hMore e.born e _ hme.2 hat ⟨hb2, ⟨es.length, Nat.le_refl _, hr2⟩, h.st, ?_, ?_⟩ hkeep ?_ ?_ ?_)
    · rw [List.nodup_append]
      exact ⟨h.nd, by simp, fun a ha b hb => by simp at hb; subst hb; intro q; subst q; exact hme.2 ha⟩
    · intro j hj
      rcases List.mem_append.1 hj with hj | hj
      · exact h.lt j hj
      · simp at hj; omega
    · rw [size_setBlock]; exact hsw
    · refine ⟨?_, ?_, ?_, by rw [size_setBlock, hsw]; exact Nat.le_refl _, fun i hi hn => hkeep i (fun q => hn (by rw [q]))⟩ <;> (rcases hal with rfl | rfl <;> (try rfl))
    · exact run_entry_at _ r B es.length vis.toArray es.toArray es.length e (by rw [hpush]; exact hr2) hb2 (by simpa using hme.1) (by simpa using stamp_nodup h.st)
end
end Go.Proofs.Ytidghmgaaenihaa.Q

/-! part HPend -/
namespace Go.Proofs.Ytidghmgaaenihaa.Q
open Go.RowKit Go.Proofs.YtidghmgaaenihaaW.PrintWords Go.Proofs.YtidghmgaaenihaaW.PrintLast Go.Proofs.YtidghmgaaenihaaW.PrintMore
set_option linter.unusedVariables false
set_option linter.unusedSimpArgs false

/-- What slices.Sort does to a row of numbers of the call's own. -/
def SortC : Prop := ∀ (w : World) (base : Nat) (v : Value) (xs : List Int), Kd.R (Kd.int .i64) 3 w base (fun _ => True) v xs → xs.length ≤ 1000000 →
  Calls Try.prog 78 #[v] w fun e w' => e = .returned (.tuple #[]) ∧ Kd.R (Kd.int .i64) 3 w' base (fun _ => True) v (xs.mergeSort (fun x y => decide (x ≤ y))) ∧ Below base w w'
def pendB (cuts : Int) (o : S60) : Bool := decide (o.f7 < 0) && o.f5 == cuts
def pendOut (cuts : Int) (ops : List S60) (vis : List Nat) : List Int := (vis.filter (fun j => pendB cuts (opAt ops j))).map (fun j => (opAt ops j).f0)
def pendP (l : List S39) : List Int := match parseP l with
  | none => []
  | some s => ((s.1.filter (pendB (cutsN l))).map (·.f0)).mergeSort (fun x y => decide (x ≤ y))
theorem entOf_len {ops : List S60} {bs : List Nat} (hl : bs.length = ops.length) : (entOf ops bs).length = ops.length := by
  unfold entOf
  simp [hl]
theorem entOf_stamp {ops : List S60} {bs : List Nat} (hl : bs.length = ops.length) : StampAt (entOf ops bs) := by
  intro j e h
  unfold entOf at h
  obtain ⟨hj, he⟩ := List.getElem?_eq_some_iff.1 h
  simp only [List.getElem_zipWith, List.getElem_range] at he
  subst he; rfl
theorem run_next_nil_at {P : Program} (w : World) (ty : TypeId) (r : Nat) (hr : w.heap[r]? = some (.mapIter none 0 #[] 0)) : (Instr.next (.pointer (some ⟨r, 0, none⟩)) false ty).run P w = .ok (.tuple #[.bool false]) w := by
  simp only [Instr.next, getObj, Sem.run_bind, Sem.run, hr, Result.andThen]
  rfl
theorem all_perm {n : Nat} {vis : List Nat} (hnd : vis.Nodup) (hlt : ∀ j ∈ vis, j < n) (hall : ∀ j, j < n → j ∈ vis) : vis.Perm (List.range n) :=
  (List.perm_ext_iff_of_nodup hnd List.nodup_range).2 (fun a => ⟨fun h => List.mem_range.2 (hlt a h), fun h => hall a (List.mem_range.1 h)⟩)
theorem sort_perm {a b : List Int} (h : a.Perm b) : a.mergeSort (fun x y => decide (x ≤ y)) = b.mergeSort (fun x y => decide (x ≤ y)) := by
  have tr : ∀ (x y z : Int), decide (x ≤ y) = true → decide (y ≤ z) = true → decide (x ≤ z) = true := by intro x y z; simp; omega
  have tot : ∀ (x y : Int), (decide (x ≤ y) || decide (y ≤ x)) = true := by intro x y; simp; omega
  refine List.Perm.eq_of_pairwise ?_ (List.pairwise_mergeSort tr tot a) (List.pairwise_mergeSort tr tot b) (((List.mergeSort_perm a _).trans h).trans (List.mergeSort_perm b _).symm)
  intro x y _ _ h1 h2
  simp at h1 h2
  omega
theorem pendOut_all {cuts : Int} {ops : List S60} {vis : List Nat} (h : vis.Perm (List.range ops.length)) : (pendOut cuts ops vis).Perm ((ops.filter (pendB cuts)).map (·.f0)) := by
  unfold pendOut
  refine ((h.filter _).map _).trans ?_
  have e : ops = (List.range ops.length).map (opAt ops) := by
    apply List.ext_getElem
    · simp
    · intro i h1 h2
      simp [opAt, List.getD_eq_getElem?_getD, h1]
  conv => rhs; rw [e]
  rw [List.filter_map, List.map_map]
  rfl
theorem pendOut_snoc (cuts : Int) (ops : List S60) (vis : List Nat) (j : Nat) : pendOut cuts ops (vis ++ [j]) = if pendB cuts (opAt ops j) = true then pendOut cuts ops vis ++ [(opAt ops j).f0] else pendOut cuts ops vis := by
  unfold pendOut
  rw [List.filter_append, List.map_append, List.filter_cons]
  split <;> simp
def visN (w : World) (r : Nat) : Nat := match w.heap[r]? with
  | some (.mapIter _ _ seen _) => seen.size
  | _ => 0
theorem MapIt.visN {w : World} {B r : Nat} {es : List MapEntry} {vis : List Nat} (h : MapIt w B r es vis) : visN w r = vis.length := by
  obtain ⟨c0, _, hr⟩ := h.it
  unfold Q.visN
  rw [hr]; simp
theorem MapIt.vlen {w : World} {B r : Nat} {es : List MapEntry} {vis : List Nat} (h : MapIt w B r es vis) : vis.length ≤ es.length := by
  have := h.nd.length_le_of_subset (l₂ := List.range es.length) (fun j hj => List.mem_range.2 (h.lt j hj))
  simpa using this
end Go.Proofs.Ytidghmgaaenihaa.Q

/-! part PRegs -/
namespace Go.Proofs.Ytidghmgaaenihaa.Q
open Go.RowKit
set_option linter.unusedVariables false
/-- r is the increasing list of the numbers of m, each once. -/
structure SetOf (r m : List Int) : Prop where
  inc : r.Pairwise (fun x y => x < y)
  mem : ∀ x, x ∈ r ↔ x ∈ m
theorem inc_ext : ∀ {a b : List Int}, a.Pairwise (fun x y => x < y) → b.Pairwise (fun x y => x < y) → (∀ x, x ∈ a ↔ x ∈ b) → a = b
  | [], [], _, _, _ => rfl
  | [], y :: b, _, _, h => absurd ((h y).2 (List.mem_cons_self ..)) (by simp)
  | x :: a, [], _, _, h => absurd ((h x).1 (List.mem_cons_self ..)) (by simp)
  | x :: a, y :: b, ha, hb, h => by
    rw [List.pairwise_cons] at ha hb
    have hxy : x = y := by
      have h1 := (h x).1 (List.mem_cons_self ..)
      have h2 := (h y).2 (List.mem_cons_self ..)
      rcases List.mem_cons.1 h1 with e | h1
      · exact e
      · rcases List.mem_cons.1 h2 with e | h2
        · exact e.symm
        · have := hb.1 x h1; have := ha.1 y h2; omega
    subst hxy
    rw [inc_ext ha.2 hb.2 (fun z => ⟨fun hz => by
      rcases List.mem_cons.1 ((h z).1 (List.mem_cons_of_mem _ hz)) with e | h1
      · subst e; have := ha.1 _ hz; omega
      · exact h1, fun hz => by
      rcases List.mem_cons.1 ((h z).2 (List.mem_cons_of_mem _ hz)) with e | h1
      · subst e; have := hb.1 _ hz; omega
      · exact h1⟩)]
theorem SetOf.eq {a b m : List Int} (ha : SetOf a m) (hb : SetOf b m) : a = b :=
  inc_ext ha.inc hb.inc (fun x => (ha.mem x).trans (hb.mem x).symm)
theorem sort_set {a m : List Int} (hnd : a.Nodup) (hm : ∀ x, x ∈ a ↔ x ∈ m) : SetOf (a.mergeSort (fun x y => decide (x ≤ y))) m := by
  have tr : ∀ (x y z : Int), decide (x ≤ y) = true → decide (y ≤ z) = true → decide (x ≤ z) = true := by intro x y z; simp; omega
  have tot : ∀ (x y : Int), (decide (x ≤ y) || decide (y ≤ x)) = true := by intro x y; simp; omega
  have hp := List.mergeSort_perm a (fun x y => decide (x ≤ y))
  refine ⟨?_, fun x => (hp.mem_iff).trans (hm x)⟩
  have h1 := List.pairwise_mergeSort tr tot a
  have h2 : (a.mergeSort (fun x y => decide (x ≤ y))).Nodup := hp.nodup_iff.2 hnd
  exact h1.imp₂ (fun x y h1 h2 => by simp at h1; have : x ≠ y := h2; omega) h2
def regB (o : S60) : Bool := o.f3 || !o.f4
def regL (ops : List S60) : List Int := (ops.filter regB).map (·.f1)
end Go.Proofs.Ytidghmgaaenihaa.Q

/-! part RInsert -/
namespace Go.Proofs.Ytidghmgaaenihaa.Q
open Go.RowKit Go.Proofs.YtidghmgaaenihaaW.PrintWords Go.Proofs.YtidghmgaaenihaaW.PrintLast Go.Proofs.YtidghmgaaenihaaW.PrintMore
set_option linter.unusedVariables false
set_option linter.unusedSimpArgs false
theorem rdI_at {l : List Int} {x : Int} (h0 : 0 ≤ x) (h : x < l.length) : rd l x = l[x.toNat]'(by omega) := by
  simp [rd, List.getD_eq_getElem?_getD, show x.toNat < l.length by omega]
theorem rdI_take {l : List Int} {x : Int} (h0 : 0 ≤ x) (h : x < l.length) : l.take (x + 1).toNat = l.take x.toNat ++ [rd l x] := by
  rw [show (x + 1).toNat = x.toNat + 1 by omega, List.take_succ_eq_append_getElem (by omega), rdI_at h0 h]
theorem rdI_drop {l : List Int} {x : Int} (h0 : 0 ≤ x) (h : x < l.length) : l.drop x.toNat = rd l x :: l.drop (x + 1).toNat := by
  rw [show (x + 1).toNat = x.toNat + 1 by omega, List.drop_eq_getElem_cons (by omega), rdI_at h0 h]
/-- What insert answers. -/
structure Ins (l : List Int) (x : Int) (r : List Int) : Prop where
  inc : r.Pairwise (fun a b => a < b)
  mem : ∀ y, y ∈ r ↔ (y = x ∨ y ∈ l)
  len : r.length ≤ l.length + 1
theorem Ins.same {l : List Int} {k : Int} (hi : l.Pairwise (fun a b => a < b)) (h0 : 0 ≤ k) (h : k < l.length) {x : Int} (hx : rd l k = x) : Ins l x l :=
  ⟨hi, fun y => ⟨.inr, fun h2 => by
    rcases h2 with rfl | h2
    · rw [← hx, rdI_at h0 h]; exact List.getElem_mem _
    · exact h2⟩, by omega⟩
theorem Ins.new {l : List Int} {k x : Int} (hi : l.Pairwise (fun a b => a < b)) (hlo : ∀ y ∈ l.take k.toNat, y < x) (hhi : ∀ y ∈ l.drop k.toNat, x < y) : Ins l x ([] ++ l.take k.toNat ++ [x] ++ l.drop k.toNat) := by
  have hsplit : l = l.take k.toNat ++ l.drop k.toNat := (List.take_append_drop _ _).symm
  refine ⟨?_, fun y => ?_, ?_⟩
  · rw [List.nil_append, List.append_assoc, List.pairwise_append]
    rw [hsplit, List.pairwise_append] at hi
    refine ⟨hi.1, ?_, fun a ha b hb => ?_⟩
    · rw [List.singleton_append, List.pairwise_cons]
      exact ⟨hhi, hi.2.1⟩
    · rw [List.singleton_append] at hb
      rcases List.mem_cons.1 hb with rfl | hb
      · exact hlo a ha
      · exact hi.2.2 a ha b hb
  · conv => rhs; rw [hsplit]
    simp only [List.nil_append, List.mem_append, List.mem_singleton]
    constructor
    · rintro ((h | h) | h)
      · exact .inr (.inl h)
      · exact .inl h
      · exact .inr (.inr h)
    · rintro (h | h | h)
      · exact .inl (.inr h)
      · exact .inl (.inl h)
      · exact .inr h
  · simp only [List.nil_append, List.length_append, List.length_take, List.length_drop, List.length_cons, List.length_nil]
    omega
theorem ins_high {l : List Int} {k x : Int} (hi : l.Pairwise (fun a b => a < b)) (h0 : 0 ≤ k) (h : k < l.length) (hx : x < rd l k) : ∀ y ∈ l.drop k.toNat, x < y := by
  have hd := rdI_drop h0 h
  have hs : l.drop k.toNat |>.Pairwise (fun a b => a < b) := hi.sublist (List.drop_sublist _ _)
  rw [hd] at hs ⊢
  rw [List.pairwise_cons] at hs
  intro y hy
  rcases List.mem_cons.1 hy with rfl | hy
  · exact hx
  · have := hs.1 y hy; omega
theorem emptyRI {V : World} {base b : Nat} (h : V.heap[b]? = some (.cells #[] 3 (0, 0))) (hb : base ≤ b) : Kd.R (Kd.int .i64) 3 V base (fun _ => True) (.slice (some ⟨b, 0, none⟩) 0 0) [] :=
  ⟨fun _ _ => trivial, [], ⟨rfl, .inr ⟨b, 0, #[], rfl, hb, h, Nat.le_refl _, Nat.zero_le _, rfl, rfl⟩⟩, Reps.none _ _⟩
theorem oneCI {V : World} {b : Nat} {e : Int} (h : V.heap[b]? = some (.cells #[.int .i64 e] 3 (0, 0))) : Kd.C (Kd.int .i64) V (some ⟨b, 0, none⟩) 1 [e] := by
  refine ⟨rfl, by decide, fun _ => ⟨⟨b, 0, none⟩, rfl, fun j p hj => ?_⟩⟩
  match j, hj with
  | 0, hj =>
    cases hj
    refine ⟨[.int .i64 e], rfl, rfl, fun i u hu => ?_⟩
    have hi : i < 1 := (List.getElem?_eq_some_iff.1 hu).1
    obtain rfl : i = 0 := by omega
    rw [← hu]
    exact blk_cell h 0
section
variable {ops : Array Oper} {o : Oper} {a : Act} {Q : Exit → Act → World → Prop} {Kc : Act → World → Prop}
theorem ap_ints_step {w0 V : World} (base : Nat) (hw : Region.wanted o (yielded ops a.tmps) = true) (s x : Operand)
    (ho : o.op = .call { callee := .builtin .append, args := #[s, x], argTypes := #[40, 40] })
    (v : Value) (xs ys : List Int) (A : Option Addr) (m c : Nat) (hs : a.eval s = v) (hx : a.eval x = .slice A m c)
    (HO : Kd.R (Kd.int .i64) 3 V base (fun _ => True) v xs) (HC : Kd.C (Kd.int .i64) V A m ys) (HB : Below base w0 V) (hbase : base ≤ V.heap.size) (hl : (xs.length + m) * 8 ≤ 140737488355328)
    (h : ∀ v1 w1, Kd.R (Kd.int .i64) 3 w1 base (fun _ => True) v1 (xs ++ ys) → Below base w0 w1 → V.grownBy w1 v.ownBlock → (v1.ownBlock = v.ownBlock ∨ ∃ b, v1.ownBlock = some b ∧ V.heap.size ≤ b) → Kc (a.put o.dst v1) w1) :
    if Region.wanted o (yielded ops a.tmps) = true then Oper.wp Try.prog o a V Kc Q else Kc (a.put o.dst undef) V :=
  Kd.R_append_rows_step (Kd.int .i64) (Rr := (Kd.int .i64).K V) base hw s x 40 3 (.int .i64 0) 8 ho Try.underlying40 info3 rfl (by decide) (by omega) v xs ys A m c (fun _ => True) (fun _ => False) hs hx HO HC
    (fun x cs h => h) (fun _ hk => hk.elim) (fun _ _ => trivial) HB hbase hl h
end
set_option maxHeartbeats 4000000 in
set_option maxRecDepth 100000 in
theorem insert_ref (A : Option Addr) (c : Nat) (l : List Int) (x : Int) (w : World) (hr : Kd.C (Kd.int .i64) w A l.length l) (hc : l.length ≤ c) (hsz : l.length ≤ 1000000) (hinc : l.Pairwise (fun a b => a < b)) :
    Calls Try.prog 77 #[.slice A l.length c, .int .i64 x] w fun e w' => ∃ A' r c', e = .returned (.slice A' r.length c') ∧ r.length ≤ c' ∧ Kd.C (Kd.int .i64) w' A' r.length r ∧ Ins l x r ∧ Below w.heap.size w w' := by
  have HR := Aside0.mk hr
  have HIN := Aside0.mk hinc
  clear hr hinc
  go_enter Try.func77, Try.ntmps77
  go_wp2
  go_loopw [5] (fun v5 wr => ∃ k : Int, 0 ≤ k ∧ k ≤ l.length ∧ v5 = .int .i64 k ∧ Aside0 (∀ y ∈ l.take k.toNat, y < x) ∧ Aside0 (Below w.heap.size w wr))
    (fun v5 _ => l.length - (intOf v5).toNat)
  case atStart => exact ⟨0, by omega, by omega, rfl, ⟨by simp⟩, ⟨Below.refl _ _⟩⟩
  case round =>
    obtain ⟨k, hk0, hk1, rfl, HLO, HB⟩ := hrel
    by_cases hlt : k < l.length
    · obtain ⟨ad, eA, g0⟩ := Kd.at_int (Kd.C_below HR.out HB.out) k hk0 hlt
      subst eA
      obtain ⟨y, HY⟩ : ∃ y, Aside0 (rd l k = y) := ⟨_, ⟨rfl⟩⟩
      rw [HY.out] at g0
      by_cases hyx : y < x
      · have hkb : k < 1000000 := by omega
        have HLO2 := Aside0.mk (show ∀ z ∈ l.take (k + 1).toNat, z < x from by
          rw [rdI_take hk0 hlt, HY.out]
          intro z hz
          rcases List.mem_append.1 hz with hz | hz
          · exact HLO.out z hz
          · simp at hz; subst hz; exact hyx)
        go_wp2
        go_roundw
        case rel => exact ⟨k + 1, by omega, by omega, rfl, HLO2, HB⟩
        case measure => simp [intOf]; omega
      · by_cases hyx2 : y = x
        · have HIS := Aside0.mk (Ins.same HIN.out hk0 hlt (HY.out.trans hyx2))
          have HCR := Aside0.mk (Kd.C_below HR.out HB.out)
          subst hyx2
          go_wp2
          go_ret
          exact ⟨_, l, _, rfl, hc, HCR.out, HIS.out, HB.out⟩
        · have HIS := Aside0.mk (Ins.new HIN.out HLO.out (ins_high HIN.out hk0 hlt (by rw [HY.out]; omega)))
          obtain ⟨i018, hi018, _, hsz18, _⟩ := info_parts info3
          have hcutT := cut_to (P := Try.prog) 40 3 .i64 Try.underlying40 hi018 (some ad) l.length c k hk0 hk1 hc
          have hcutD := cut_from (P := Try.prog) 40 3 .i64 Try.underlying40 hi018 1 hsz18 (some ad) l.length c k hk0 hk1
          have HCW := Aside0.mk (Kd.C_below HR.out HB.out)
          have HLT := Aside0.mk (show Kd.C (Kd.int .i64) wr (some ad) k.toNat (l.take k.toNat) by have h5 := Kd.C_take (m := k.toNat) HCW.out (by omega); rwa [show (l.take k.toNat).length = k.toNat by simp; omega] at h5)
          have HLD0 := Kd.C_drop (m := k.toNat) HCW.out (by omega) hc
          rw [List.length_drop] at HLD0
          obtain ⟨AD, hAD⟩ : ∃ AD, (if c = k.toNat then (some ad) else (some ad).map (·.add (k.toNat * 1))) = AD := ⟨_, rfl⟩
          have HLD := Aside0.mk (show Kd.C (Kd.int .i64) wr AD (l.length - k.toNat) (l.drop k.toNat) by rw [← hAD]; exact HLD0)
          rw [hAD] at hcutD
          clear HLD0 hAD
          have HBLa := Aside0.mk (show Below wr.heap.size wr (wr.alloc (.cells #[] 3)).drew from below_drew (below_alloc (Below.refl _ _) _))
          have H37a := Aside0.mk (show ((wr.alloc (.cells #[] 3)).drew).heap[wr.heap.size]? = some (.cells #[] 3 (0, 0)) from blk_new wr (.cells #[] 3))
          have HBLb := Aside0.mk (show Below wr.heap.size wr ((wr.alloc (.cells #[] 3)).alloc (.cells #[.int .i64 x] 3)).drew from below_drew (below_alloc (below_alloc (Below.refl _ _) _) _))
          have H37b := Aside0.mk (show (((wr.alloc (.cells #[] 3)).alloc (.cells #[.int .i64 x] 3)).drew).heap[wr.heap.size]? = some (.cells #[] 3 (0, 0)) from blk_old (blk_new wr (.cells #[] 3)) (below_drew (below_alloc (Below.refl _ _) _)))
          have HBLc := Aside0.mk (show Below wr.heap.size wr ((wr.alloc (.cells #[.int .i64 x] 3)).alloc (.cells #[] 3)).drew from below_drew (below_alloc (below_alloc (Below.refl _ _) _) _))
          have H37c := Aside0.mk (show (((wr.alloc (.cells #[.int .i64 x] 3)).alloc (.cells #[] 3)).drew).heap[(wr.heap.size + 1)]? = some (.cells #[] 3 (0, 0)) from (by have h5 := blk_new (wr.alloc (.cells #[.int .i64 x] 3)) (.cells #[] 3); rwa [show (wr.alloc (.cells #[.int .i64 x] 3)).heap.size = wr.heap.size + 1 by simp] at h5))
          have H46b := Aside0.mk (show (((wr.alloc (.cells #[] 3)).alloc (.cells #[.int .i64 x] 3)).drew).heap[wr.heap.size + 1]? = some (.cells #[.int .i64 x] 3 (0, 0)) from (by have h5 := blk_new (wr.alloc (.cells #[] 3)) (.cells #[.int .i64 x] 3); rwa [show (wr.alloc (.cells #[] 3)).heap.size = wr.heap.size + 1 by simp] at h5))
          have H46c := Aside0.mk (show (((wr.alloc (.cells #[.int .i64 x] 3)).alloc (.cells #[] 3)).drew).heap[wr.heap.size]? = some (.cells #[.int .i64 x] 3 (0, 0)) from blk_old (blk_new wr (.cells #[.int .i64 x] 3)) (below_drew (below_alloc (Below.refl _ _) _)))
          have HL1 := Aside0.mk (show ([] ++ l.take k.toNat).length = k.toNat by simp only [List.nil_append, List.length_take]; omega)
          have HL2 := Aside0.mk (show ([] ++ l.take k.toNat ++ [x]).length = k.toNat + 1 by simp only [List.nil_append, List.length_append, List.length_take, List.length_cons, List.length_nil]; omega)
          have HL3 := Aside0.mk (show ([] ++ l.take k.toNat ++ [x] ++ l.drop k.toNat).length = l.length + 1 by simp only [List.nil_append, List.length_append, List.length_take, List.length_drop, List.length_cons, List.length_nil]; omega)
          have HBR := Aside0.mk HB.out.size
          go_wp2
          go_region_held3? (fun _ => True) (first | trivial | go_keep) (first | (refine ap_ints_step (w0 := wr) (V := (wr.alloc (.cells #[] 3)).drew) wr.heap.size (by rfl) (.tmp 33) (.tmp 36) rfl (.slice (some ⟨wr.heap.size, 0, none⟩) 0 0) [] (l.take k.toNat) (some ad) k.toNat c rfl rfl (emptyRI H37a.out (by omega)) (Kd.C_below HLT.out HBLa.out) HBLa.out HBLa.out.size (by simp only [List.length_nil]; omega) ?_; intro v1 w1 ho hb hg hat; obtain ⟨A9, c9, e9, hc9, _⟩ := Kd.R_reads ho; rw [HL1.out] at e9 hc9; subst e9; have HO1 := Aside0.mk ho; have HBV1 := Aside0.mk hb) | (refine ap_ints_step (w0 := wr) (V := ((wr.alloc (.cells #[] 3)).alloc (.cells #[.int .i64 x] 3)).drew) wr.heap.size (by rfl) (.tmp 33) (.tmp 36) rfl (.slice (some ⟨wr.heap.size, 0, none⟩) 0 0) [] (l.take k.toNat) (some ad) k.toNat c rfl rfl (emptyRI H37b.out (by omega)) (Kd.C_below HLT.out HBLb.out) HBLb.out HBLb.out.size (by simp only [List.length_nil]; omega) ?_; intro v1 w1 ho hb hg hat; obtain ⟨A9, c9, e9, hc9, _⟩ := Kd.R_reads ho; rw [HL1.out] at e9 hc9; subst e9; have HO1 := Aside0.mk ho; have HBV1 := Aside0.mk hb; have HE1 := Aside0.mk (blk_grown H46b.out hg (by simp [Value.ownBlock]))) | (refine ap_ints_step (w0 := wr) (V := ((wr.alloc (.cells #[.int .i64 x] 3)).alloc (.cells #[] 3)).drew) wr.heap.size (by rfl) (.tmp 33) (.tmp 36) rfl (.slice (some ⟨(wr.heap.size + 1), 0, none⟩) 0 0) [] (l.take k.toNat) (some ad) k.toNat c rfl rfl (emptyRI H37c.out (by omega)) (Kd.C_below HLT.out HBLc.out) HBLc.out HBLc.out.size (by simp only [List.length_nil]; omega) ?_; intro v1 w1 ho hb hg hat; obtain ⟨A9, c9, e9, hc9, _⟩ := Kd.R_reads ho; rw [HL1.out] at e9 hc9; subst e9; have HO1 := Aside0.mk ho; have HBV1 := Aside0.mk hb; have HE1 := Aside0.mk (blk_grown H46c.out hg (by simp [Value.ownBlock]))) | (refine ap_ints_step (w0 := wr) (V := w3) wr.heap.size (by rfl) (.tmp 40) (.tmp 43) rfl (.slice A8 (k.toNat + 1) c8) ([] ++ l.take k.toNat ++ [x]) (l.drop k.toNat) AD (l.length - k.toNat) (c - k.toNat) rfl rfl HO2.out (Kd.C_below HLD.out HBV2.out) HBV2.out HBV2.out.size (by rw [HL2.out]; omega) ?_; intro v4 w4 ho hb hg hat; obtain ⟨A7, c7, e9, hc7, _⟩ := Kd.R_reads ho; rw [HL3.out] at e9 hc7; subst e9; have HO3 := Aside0.mk ho; have HBV3 := Aside0.mk hb) | (refine ap_ints_step (w0 := wr) (V := w1) wr.heap.size (by rfl) (.tmp 37) (.tmp 39) rfl (.slice A9 k.toNat c9) ([] ++ l.take k.toNat) [x] _ 1 1 rfl rfl HO1.out (oneCI HE1.out) HBV1.out HBV1.out.size (by rw [HL1.out]; omega) ?_; intro v2 w3 ho hb hg hat; obtain ⟨A8, c8, e9, hc8, _⟩ := Kd.R_reads ho; rw [HL2.out] at e9 hc8; subst e9; have HO2 := Aside0.mk ho; have HBV2 := Aside0.mk hb) | (refine ap_ints_step (w0 := wr) (V := w1.alloc (.cells #[.int .i64 x] 3)) wr.heap.size (by rfl) (.tmp 37) (.tmp 39) rfl (.slice A9 k.toNat c9) ([] ++ l.take k.toNat) [x] _ 1 1 rfl rfl (Kd.R_alloc HO1.out _) (oneCI (blk_new w1 _)) (below_alloc HBV1.out _) (below_alloc HBV1.out _).size (by rw [HL1.out]; omega) ?_; intro v2 w3 ho hb hg hat; obtain ⟨A8, c8, e9, hc8, _⟩ := Kd.R_reads ho; rw [HL2.out] at e9 hc8; subst e9; have HO2 := Aside0.mk ho; have HBV2 := Aside0.mk hb))
          all_goals (
            have HC3 := Aside0.mk (Kd.R_reads' HO3.out).2.2
            have hc7' := hc7
            have HBF := Aside0.mk (HB.out.trans (HBV3.out.mono HBR.out))
            clear HO1 HO2 HO3 HLT HLD HBLa HBLb HBLc H37a H37b H37c H46b H46c hcutT hcutD
            go_wp2
            go_ret
            exact ⟨A7, [] ++ l.take k.toNat ++ [x] ++ l.drop k.toNat, c7, by rw [HL3.out]; rfl, by rw [HL3.out]; exact hc7', HC3.out, HIS.out, HBF.out⟩)
    · have HIS := Aside0.mk (Ins.new HIN.out HLO.out (show ∀ y ∈ l.drop k.toNat, x < y from by rw [List.drop_eq_nil_of_le (by omega)]; simp))
      obtain ⟨i018, hi018, _, hsz18, _⟩ := info_parts info3
      have hcutT := cut_to (P := Try.prog) 40 3 .i64 Try.underlying40 hi018 A l.length c k hk0 hk1 hc
      have hcutD := cut_from (P := Try.prog) 40 3 .i64 Try.underlying40 hi018 1 hsz18 A l.length c k hk0 hk1
      have HCW := Aside0.mk (Kd.C_below HR.out HB.out)
      have HLT := Aside0.mk (show Kd.C (Kd.int .i64) wr A k.toNat (l.take k.toNat) by have h5 := Kd.C_take (m := k.toNat) HCW.out (by omega); rwa [show (l.take k.toNat).length = k.toNat by simp; omega] at h5)
      have HLD0 := Kd.C_drop (m := k.toNat) HCW.out (by omega) hc
      rw [List.length_drop] at HLD0
      obtain ⟨AD, hAD⟩ : ∃ AD, (if c = k.toNat then A else A.map (·.add (k.toNat * 1))) = AD := ⟨_, rfl⟩
      have HLD := Aside0.mk (show Kd.C (Kd.int .i64) wr AD (l.length - k.toNat) (l.drop k.toNat) by rw [← hAD]; exact HLD0)
      rw [hAD] at hcutD
      clear HLD0 hAD
      have HBLa := Aside0.mk (show Below wr.heap.size wr (wr.alloc (.cells #[] 3)).drew from below_drew (below_alloc (Below.refl _ _) _))
      have H37a := Aside0.mk (show ((wr.alloc (.cells #[] 3)).drew).heap[wr.heap.size]? = some (.cells #[] 3 (0, 0)) from blk_new wr (.cells #[] 3))
      have HBLb := Aside0.mk (show Below wr.heap.size wr ((wr.alloc (.cells #[] 3)).alloc (.cells #[.int .i64 x] 3)).drew from below_drew (below_alloc (below_alloc (Below.refl _ _) _) _))
      have H37b := Aside0.mk (show (((wr.alloc (.cells #[] 3)).alloc (.cells #[.int .i64 x] 3)).drew).heap[wr.heap.size]? = some (.cells #[] 3 (0, 0)) from blk_old (blk_new wr (.cells #[] 3)) (below_drew (below_alloc (Below.refl _ _) _)))
      have HBLc := Aside0.mk (show Below wr.heap.size wr ((wr.alloc (.cells #[.int .i64 x] 3)).alloc (.cells #[] 3)).drew from below_drew (below_alloc (below_alloc (Below.refl _ _) _) _))
      have H37c := Aside0.mk (show (((wr.alloc (.cells #[.int .i64 x] 3)).alloc (.cells #[] 3)).drew).heap[(wr.heap.size + 1)]? = some (.cells #[] 3 (0, 0)) from (by have h5 := blk_new (wr.alloc (.cells #[.int .i64 x] 3)) (.cells #[] 3); rwa [show (wr.alloc (.cells #[.int .i64 x] 3)).heap.size = wr.heap.size + 1 by simp] at h5))
      have H46b := Aside0.mk (show (((wr.alloc (.cells #[] 3)).alloc (.cells #[.int .i64 x] 3)).drew).heap[wr.heap.size + 1]? = some (.cells #[.int .i64 x] 3 (0, 0)) from (by have h5 := blk_new (wr.alloc (.cells #[] 3)) (.cells #[.int .i64 x] 3); rwa [show (wr.alloc (.cells #[] 3)).heap.size = wr.heap.size + 1 by simp] at h5))
      have H46c := Aside0.mk (show (((wr.alloc (.cells #[.int .i64 x] 3)).alloc (.cells #[] 3)).drew).heap[wr.heap.size]? = some (.cells #[.int .i64 x] 3 (0, 0)) from blk_old (blk_new wr (.cells #[.int .i64 x] 3)) (below_drew (below_alloc (Below.refl _ _) _)))
      have HL1 := Aside0.mk (show ([] ++ l.take k.toNat).length = k.toNat by simp only [List.nil_append, List.length_take]; omega)
      have HL2 := Aside0.mk (show ([] ++ l.take k.toNat ++ [x]).length = k.toNat + 1 by simp only [List.nil_append, List.length_append, List.length_take, List.length_cons, List.length_nil]; omega)
      have HL3 := Aside0.mk (show ([] ++ l.take k.toNat ++ [x] ++ l.drop k.toNat).length = l.length + 1 by simp only [List.nil_append, List.length_append, List.length_take, List.length_drop, List.length_cons, List.length_nil]; omega)
      have HBR := Aside0.mk HB.out.size
      go_wp2
      have hlt' := Aside0.mk hlt
      clear hlt
      go_region_held3? (fun _ => True) (first | trivial | go_keep) (first | (refine ap_ints_step (w0 := wr) (V := (wr.alloc (.cells #[] 3)).drew) wr.heap.size (by rfl) (.tmp 33) (.tmp 36) rfl (.slice (some ⟨wr.heap.size, 0, none⟩) 0 0) [] (l.take k.toNat) A k.toNat c rfl rfl (emptyRI H37a.out (by omega)) (Kd.C_below HLT.out HBLa.out) HBLa.out HBLa.out.size (by simp only [List.length_nil]; omega) ?_; intro v1 w1 ho hb hg hat; obtain ⟨A9, c9, e9, hc9, _⟩ := Kd.R_reads ho; rw [HL1.out] at e9 hc9; subst e9; have HO1 := Aside0.mk ho; have HBV1 := Aside0.mk hb) | (refine ap_ints_step (w0 := wr) (V := ((wr.alloc (.cells #[] 3)).alloc (.cells #[.int .i64 x] 3)).drew) wr.heap.size (by rfl) (.tmp 33) (.tmp 36) rfl (.slice (some ⟨wr.heap.size, 0, none⟩) 0 0) [] (l.take k.toNat) A k.toNat c rfl rfl (emptyRI H37b.out (by omega)) (Kd.C_below HLT.out HBLb.out) HBLb.out HBLb.out.size (by simp only [List.length_nil]; omega) ?_; intro v1 w1 ho hb hg hat; obtain ⟨A9, c9, e9, hc9, _⟩ := Kd.R_reads ho; rw [HL1.out] at e9 hc9; subst e9; have HO1 := Aside0.mk ho; have HBV1 := Aside0.mk hb; have HE1 := Aside0.mk (blk_grown H46b.out hg (by simp [Value.ownBlock]))) | (refine ap_ints_step (w0 := wr) (V := ((wr.alloc (.cells #[.int .i64 x] 3)).alloc (.cells #[] 3)).drew) wr.heap.size (by rfl) (.tmp 33) (.tmp 36) rfl (.slice (some ⟨(wr.heap.size + 1), 0, none⟩) 0 0) [] (l.take k.toNat) A k.toNat c rfl rfl (emptyRI H37c.out (by omega)) (Kd.C_below HLT.out HBLc.out) HBLc.out HBLc.out.size (by simp only [List.length_nil]; omega) ?_; intro v1 w1 ho hb hg hat; obtain ⟨A9, c9, e9, hc9, _⟩ := Kd.R_reads ho; rw [HL1.out] at e9 hc9; subst e9; have HO1 := Aside0.mk ho; have HBV1 := Aside0.mk hb; have HE1 := Aside0.mk (blk_grown H46c.out hg (by simp [Value.ownBlock]))) | (refine ap_ints_step (w0 := wr) (V := w3) wr.heap.size (by rfl) (.tmp 40) (.tmp 43) rfl (.slice A8 (k.toNat + 1) c8) ([] ++ l.take k.toNat ++ [x]) (l.drop k.toNat) AD (l.length - k.toNat) (c - k.toNat) rfl rfl HO2.out (Kd.C_below HLD.out HBV2.out) HBV2.out HBV2.out.size (by rw [HL2.out]; omega) ?_; intro v4 w4 ho hb hg hat; obtain ⟨A7, c7, e9, hc7, _⟩ := Kd.R_reads ho; rw [HL3.out] at e9 hc7; subst e9; have HO3 := Aside0.mk ho; have HBV3 := Aside0.mk hb) | (refine ap_ints_step (w0 := wr) (V := w1) wr.heap.size (by rfl) (.tmp 37) (.tmp 39) rfl (.slice A9 k.toNat c9) ([] ++ l.take k.toNat) [x] _ 1 1 rfl rfl HO1.out (oneCI HE1.out) HBV1.out HBV1.out.size (by rw [HL1.out]; omega) ?_; intro v2 w3 ho hb hg hat; obtain ⟨A8, c8, e9, hc8, _⟩ := Kd.R_reads ho; rw [HL2.out] at e9 hc8; subst e9; have HO2 := Aside0.mk ho; have HBV2 := Aside0.mk hb) | (refine ap_ints_step (w0 := wr) (V := w1.alloc (.cells #[.int .i64 x] 3)) wr.heap.size (by rfl) (.tmp 37) (.tmp 39) rfl (.slice A9 k.toNat c9) ([] ++ l.take k.toNat) [x] _ 1 1 rfl rfl (Kd.R_alloc HO1.out _) (oneCI (blk_new w1 _)) (below_alloc HBV1.out _) (below_alloc HBV1.out _).size (by rw [HL1.out]; omega) ?_; intro v2 w3 ho hb hg hat; obtain ⟨A8, c8, e9, hc8, _⟩ := Kd.R_reads ho; rw [HL2.out] at e9 hc8; subst e9; have HO2 := Aside0.mk ho; have HBV2 := Aside0.mk hb))
      all_goals (
        have HC3 := Aside0.mk (Kd.R_reads' HO3.out).2.2
        have hc7' := hc7
        have HBF := Aside0.mk (HB.out.trans (HBV3.out.mono HBR.out))
        clear HO1 HO2 HO3 HLT HLD HBLa HBLb HBLc H37a H37b H37c H46b H46c hcutT hcutD
        go_wp2
        go_ret
        exact ⟨A7, [] ++ l.take k.toNat ++ [x] ++ l.drop k.toNat, c7, by rw [HL3.out]; rfl, by rw [HL3.out]; exact hc7', HC3.out, HIS.out, HBF.out⟩)
end Go.Proofs.Ytidghmgaaenihaa.Q

/-! part Q97 -/
namespace Go.Proofs.Ytidghmgaaenihaa.Q
open Go.RowKit Go.Proofs.YtidghmgaaenihaaW.PrintWords Go.Proofs.YtidghmgaaenihaaW.PrintLast Go.Proofs.YtidghmgaaenihaaW.PrintMore
attribute [local go_sem] max2_int min2_int max_two min_two max_three min_three max_four min_four
set_option linter.unusedVariables false
set_option linter.unusedSimpArgs false

/-! ### tegularef45_find: function 97 -/
def tegularef45_find.l0 : Nat → List (S39) → Int → Int → Int → Int → Option (Int)
  | 0, _, _, _, _, _ => none
  | k + 1, x0, x1, x2, x3, x9 => if x9 < x3 then (if 0 ≤ x9 then (if x9 < (x0.length : Int) then (if ((rd_T39 x0 x9).f0) = x1 then (if ((rd_T39 x0 x9).f1) = x2 then (some x9) else (tegularef45_find.l0 k x0 x1 x2 x3 (wrap64 (x9 + 1)))) else (tegularef45_find.l0 k x0 x1 x2 x3 (wrap64 (x9 + 1)))) else (none)) else (none)) else (some (-1))
def tegularef45_find.f (k : Nat) (l0 : List (S39)) (a1 : Int) (a2 : Int) (a3 : Int) : Option (Int) := tegularef45_find.l0 k l0 a1 a2 a3 0
theorem tegularef45_find.mono_l : ∀ k, (∀ y0 y1 y2 y3 y4, LeO (tegularef45_find.l0 k y0 y1 y2 y3 y4) (tegularef45_find.l0 (k + 1) y0 y1 y2 y3 y4))
  | 0 => fun _ _ _ _ _ r h => by simp [tegularef45_find.l0] at h
  | k + 1 => by
    have ih0 := tegularef45_find.mono_l k
    · intro y0 y1 y2 y3 y4
      unfold tegularef45_find.l0
      repeat' first
      | (with_reducible exact ih0 _ _ _ _ _)
      | (with_reducible exact LeO.refl _)
      | (with_reducible exact LeO.none _)
      | (with_reducible refine LeO.ite ?_ ?_)
      | (with_reducible refine LeO.bind ?_ (fun _ => ?_))
      | exact ih0 _ _ _ _ _
      | exact LeO.none _
      | refine LeO.ite ?_ ?_
      | refine LeO.bind ?_ (fun _ => ?_)
theorem tegularef45_find.mono : ∀ a0 a1 a2 a3 k, LeO (tegularef45_find.f k a0 a1 a2 a3) (tegularef45_find.f (k + 1) a0 a1 a2 a3) := by
  intro a0 a1 a2 a3 k
  have ih0 := tegularef45_find.mono_l k
  unfold tegularef45_find.f
  repeat' first
      | (with_reducible exact ih0 _ _ _ _ _)
      | (with_reducible exact LeO.refl _)
      | (with_reducible exact LeO.none _)
      | (with_reducible refine LeO.ite ?_ ?_)
      | (with_reducible refine LeO.bind ?_ (fun _ => ?_))
      | exact ih0 _ _ _ _ _
      | exact LeO.none _
      | refine LeO.ite ?_ ?_
      | refine LeO.bind ?_ (fun _ => ?_)
set_option maxHeartbeats 8000000 in
set_option maxRecDepth 100000 in
theorem tegularef45_find.calls (k : Nat) (A0 : Option Addr) (c0 : Nat) (l0 : List (S39)) (a1 : Int) (a2 : Int) (a3 : Int) (r : Int) (w : World) (hr0 : Kd.C k39 w A0 l0.length l0) (hc0 : l0.length ≤ c0) (h : tegularef45_find.f k l0 a1 a2 a3 = some r) :
    Calls Try.prog 97 #[.slice A0 l0.length c0, .int .i64 a1, .int .i64 a2, .int .i64 a3] w fun e w' => e = .returned (.int .i64 r) ∧ Drawn0 w w' := by
  have HR0 := Aside0.mk hr0
  have HC0 := Aside0.mk hc0
  clear hr0 hc0
  have H : (tegularef45_find.l0 k l0 a1 a2 a3 0) = some r := h
  clear h
  have H' := Aside0.mk H
  clear H
  go_enter Try.func97, Try.ntmps97
  go_wp2
  go_loopg [9] k (fun kq v9 w' => ∃ (x9_1 : Int), v9 = .int .i64 x9_1 ∧ Aside0 (tegularef45_find.l0 kq l0 a1 a2 a3 x9_1 = some r) ∧ Aside0 (kq ≤ k) ∧ Drawn0 w w')
  case atStart => exact ⟨(0), (by first | rfl | (simp; done) | (simp [*]; done)), H', ⟨Nat.le_refl _⟩, by repeat (first | exact Drawn0.refl _ | apply Drawn0.step)⟩
  case round =>
    clear H'
    try clear p2
    obtain ⟨x9_1, rfl, HA, HK1, ⟨m1, rfl⟩⟩ := hrel
    cases gk with
    | zero => exact absurd HA.out (by simp [tegularef45_find.l0])
    | succ k1 =>
      have H := HA.out
      clear HA
      simp only [tegularef45_find.l0] at H
      by_cases c5 : x9_1 < a3
      · rw [if_pos c5] at H
        have c5b0 : decide (x9_1 < a3) = true := decide_eq_true c5
        clear c5
        by_cases c6 : 0 ≤ x9_1
        · rw [if_pos c6] at H
          have c6b0 : decide (0 ≤ x9_1) = true := decide_eq_true c6
          clear c6
          by_cases c7 : x9_1 < (l0.length : Int)
          · rw [if_pos c7] at H
            have c7b0 : decide (x9_1 < (l0.length : Int)) = true := decide_eq_true c7
            clear c7
            by_cases c8 : ((rd_T39 l0 x9_1).f0) = a1
            · rw [if_pos c8] at H
              have c8b0 : (((rd_T39 l0 x9_1).f0) == a1) = true := beq_iff_eq.mpr c8
              have c8b1 : (((rd_T39 l0 x9_1).f0) != a1) = false := bne_eq_false_iff_eq.mpr c8
              clear c8
              by_cases c9 : ((rd_T39 l0 x9_1).f1) = a2
              · rw [if_pos c9] at H
                have c9b0 : (((rd_T39 l0 x9_1).f1) == a2) = true := beq_iff_eq.mpr c9
                have c9b1 : (((rd_T39 l0 x9_1).f1) != a2) = false := bne_eq_false_iff_eq.mpr c9
                clear c9
                obtain rfl := Option.some.inj H
                have p165 : 0 ≤ (x9_1 : Int) := of_decide_eq_true (by first | (with_reducible assumption) | assumption)
                have q165 : x9_1 < (l0.length : Int) := of_decide_eq_true (by first | (with_reducible assumption) | assumption)
                obtain ⟨ad165, e165, hx165_0, hx165_1, hx165_2, hx165_3, hx165_4, hx165_5⟩ := at_T39 HR0.out x9_1 p165 q165
                cases e165
                replace p165 := eq_true p165
                replace q165 := eq_true q165
                have p166 : 0 ≤ (x9_1 : Int) := of_decide_eq_true (by first | (with_reducible assumption) | assumption)
                have q166 : x9_1 < (l0.length : Int) := of_decide_eq_true (by first | (with_reducible assumption) | assumption)
                obtain ⟨ad166, e166, hx166_0, hx166_1, hx166_2, hx166_3, hx166_4, hx166_5⟩ := at_T39 HR0.out x9_1 p166 q166
                obtain rfl : ad165 = ad166 := (by injection e166)
                replace p166 := eq_true p166
                replace q166 := eq_true q166
                go_wp2
                go_ret
                exact ⟨by first | rfl | (simp; done) | (simp [*]; done), by repeat (first | exact Drawn0.refl _ | apply Drawn0.step)⟩
              · rw [if_neg c9] at H
                have c9b0 : (((rd_T39 l0 x9_1).f1) == a2) = false := beq_eq_false_iff_ne.mpr c9
                have c9b1 : (((rd_T39 l0 x9_1).f1) != a2) = true := bne_iff_ne.mpr c9
                have H' := Aside0.mk H
                clear H
                have p165 : 0 ≤ (x9_1 : Int) := of_decide_eq_true (by first | (with_reducible assumption) | assumption)
                have q165 : x9_1 < (l0.length : Int) := of_decide_eq_true (by first | (with_reducible assumption) | assumption)
                obtain ⟨ad165, e165, hx165_0, hx165_1, hx165_2, hx165_3, hx165_4, hx165_5⟩ := at_T39 HR0.out x9_1 p165 q165
                cases e165
                replace p165 := eq_true p165
                replace q165 := eq_true q165
                have p166 : 0 ≤ (x9_1 : Int) := of_decide_eq_true (by first | (with_reducible assumption) | assumption)
                have q166 : x9_1 < (l0.length : Int) := of_decide_eq_true (by first | (with_reducible assumption) | assumption)
                obtain ⟨ad166, e166, hx166_0, hx166_1, hx166_2, hx166_3, hx166_4, hx166_5⟩ := at_T39 HR0.out x9_1 p166 q166
                obtain rfl : ad165 = ad166 := (by injection e166)
                replace p166 := eq_true p166
                replace q166 := eq_true q166
                go_wp2
                go_roundg k1
                case measure => have := HK1.out; omega
                case rel => exact ⟨(wrap64 (x9_1 + 1)), (by first | rfl | (simp; done) | (simp [*]; done)), H', ⟨by have := HK1.out; omega⟩, by repeat (first | exact Drawn0.refl _ | apply Drawn0.step)⟩
            · rw [if_neg c8] at H
              have c8b0 : (((rd_T39 l0 x9_1).f0) == a1) = false := beq_eq_false_iff_ne.mpr c8
              have c8b1 : (((rd_T39 l0 x9_1).f0) != a1) = true := bne_iff_ne.mpr c8
              have H' := Aside0.mk H
              clear H
              have p165 : 0 ≤ (x9_1 : Int) := of_decide_eq_true (by first | (with_reducible assumption) | assumption)
              have q165 : x9_1 < (l0.length : Int) := of_decide_eq_true (by first | (with_reducible assumption) | assumption)
              obtain ⟨ad165, e165, hx165_0, hx165_1, hx165_2, hx165_3, hx165_4, hx165_5⟩ := at_T39 HR0.out x9_1 p165 q165
              cases e165
              replace p165 := eq_true p165
              replace q165 := eq_true q165
              go_wp2
              go_roundg k1
              case measure => have := HK1.out; omega
              case rel => exact ⟨(wrap64 (x9_1 + 1)), (by first | rfl | (simp; done) | (simp [*]; done)), H', ⟨by have := HK1.out; omega⟩, by repeat (first | exact Drawn0.refl _ | apply Drawn0.step)⟩
          · rw [if_neg c7] at H
            exact absurd H (by simp)
        · rw [if_neg c6] at H
          exact absurd H (by simp)
      · rw [if_neg c5] at H
        have c5b0 : decide (x9_1 < a3) = false := decide_eq_false c5
        clear c5
        obtain rfl := Option.some.inj H
        go_wp2
        go_ret
        exact ⟨by first | rfl | (simp; done) | (simp [*]; done), by repeat (first | exact Drawn0.refl _ | apply Drawn0.step)⟩

end Go.Proofs.Ytidghmgaaenihaa.Q

/-! part Q79 -/
namespace Go.Proofs.Ytidghmgaaenihaa.Q
open Go.RowKit Go.Proofs.YtidghmgaaenihaaW.PrintWords Go.Proofs.YtidghmgaaenihaaW.PrintLast Go.Proofs.YtidghmgaaenihaaW.PrintMore
attribute [local go_sem] max2_int min2_int max_two min_two max_three min_three max_four min_four
set_option linter.unusedVariables false
set_option linter.unusedSimpArgs false

/-! ### tegularef45_cut: function 79 -/
def tegularef45_cut.l0 : Nat → List (S39) → Int → Int → Option (Bool)
  | 0, _, _, _ => none
  | k + 1, x0, x2, x7 => if x7 < x2 then (if 0 ≤ x7 then (if x7 < (x0.length : Int) then (if ((rd_T39 x0 x7).f0) = 3 then (some true) else (tegularef45_cut.l0 k x0 x2 (wrap64 (x7 + 1)))) else (none)) else (none)) else (some false)
def tegularef45_cut.f (k : Nat) (l0 : List (S39)) (a1 : Int) (a2 : Int) : Option (Bool) := tegularef45_cut.l0 k l0 a2 a1
theorem tegularef45_cut.mono_l : ∀ k, (∀ y0 y1 y2, LeO (tegularef45_cut.l0 k y0 y1 y2) (tegularef45_cut.l0 (k + 1) y0 y1 y2))
  | 0 => fun _ _ _ r h => by simp [tegularef45_cut.l0] at h
  | k + 1 => by
    have ih0 := tegularef45_cut.mono_l k
    · intro y0 y1 y2
      unfold tegularef45_cut.l0
      repeat' first
      | (with_reducible exact ih0 _ _ _)
      | (with_reducible exact LeO.refl _)
      | (with_reducible exact LeO.none _)
      | (with_reducible refine LeO.ite ?_ ?_)
      | (with_reducible refine LeO.bind ?_ (fun _ => ?_))
      | exact ih0 _ _ _
      | exact LeO.none _
      | refine LeO.ite ?_ ?_
      | refine LeO.bind ?_ (fun _ => ?_)
theorem tegularef45_cut.mono : ∀ a0 a1 a2 k, LeO (tegularef45_cut.f k a0 a1 a2) (tegularef45_cut.f (k + 1) a0 a1 a2) := by
  intro a0 a1 a2 k
  have ih0 := tegularef45_cut.mono_l k
  unfold tegularef45_cut.f
  repeat' first
      | (with_reducible exact ih0 _ _ _)
      | (with_reducible exact LeO.refl _)
      | (with_reducible exact LeO.none _)
      | (with_reducible refine LeO.ite ?_ ?_)
      | (with_reducible refine LeO.bind ?_ (fun _ => ?_))
      | exact ih0 _ _ _
      | exact LeO.none _
      | refine LeO.ite ?_ ?_
      | refine LeO.bind ?_ (fun _ => ?_)
set_option maxHeartbeats 8000000 in
set_option maxRecDepth 100000 in
theorem tegularef45_cut.calls (k : Nat) (A0 : Option Addr) (c0 : Nat) (l0 : List (S39)) (a1 : Int) (a2 : Int) (r : Bool) (w : World) (hr0 : Kd.C k39 w A0 l0.length l0) (hc0 : l0.length ≤ c0) (h : tegularef45_cut.f k l0 a1 a2 = some r) :
    Calls Try.prog 79 #[.slice A0 l0.length c0, .int .i64 a1, .int .i64 a2] w fun e w' => e = .returned (.bool r) ∧ Drawn0 w w' := by
  have HR0 := Aside0.mk hr0
  have HC0 := Aside0.mk hc0
  clear hr0 hc0
  have H : (tegularef45_cut.l0 k l0 a2 a1) = some r := h
  clear h
  have H' := Aside0.mk H
  clear H
  go_enter Try.func79, Try.ntmps79
  go_wp2
  go_loopg [7] k (fun kq v7 w' => ∃ (x7_1 : Int), v7 = .int .i64 x7_1 ∧ Aside0 (tegularef45_cut.l0 kq l0 a2 x7_1 = some r) ∧ Aside0 (kq ≤ k) ∧ Drawn0 w w')
  case atStart => exact ⟨(a1), (by first | rfl | (simp; done) | (simp [*]; done)), H', ⟨Nat.le_refl _⟩, by repeat (first | exact Drawn0.refl _ | apply Drawn0.step)⟩
  case round =>
    clear H'
    try clear p2
    obtain ⟨x7_1, rfl, HA, HK1, ⟨m1, rfl⟩⟩ := hrel
    cases gk with
    | zero => exact absurd HA.out (by simp [tegularef45_cut.l0])
    | succ k1 =>
      have H := HA.out
      clear HA
      simp only [tegularef45_cut.l0] at H
      by_cases c4 : x7_1 < a2
      · rw [if_pos c4] at H
        have c4b0 : decide (x7_1 < a2) = true := decide_eq_true c4
        clear c4
        by_cases c5 : 0 ≤ x7_1
        · rw [if_pos c5] at H
          have c5b0 : decide (0 ≤ x7_1) = true := decide_eq_true c5
          clear c5
          by_cases c6 : x7_1 < (l0.length : Int)
          · rw [if_pos c6] at H
            have c6b0 : decide (x7_1 < (l0.length : Int)) = true := decide_eq_true c6
            clear c6
            by_cases c7 : ((rd_T39 l0 x7_1).f0) = 3
            · rw [if_pos c7] at H
              have c7b0 : (((rd_T39 l0 x7_1).f0) == 3) = true := beq_iff_eq.mpr c7
              have c7b1 : (((rd_T39 l0 x7_1).f0) != 3) = false := bne_eq_false_iff_eq.mpr c7
              clear c7
              obtain rfl := Option.some.inj H
              have p164 : 0 ≤ (x7_1 : Int) := of_decide_eq_true (by first | (with_reducible assumption) | assumption)
              have q164 : x7_1 < (l0.length : Int) := of_decide_eq_true (by first | (with_reducible assumption) | assumption)
              obtain ⟨ad164, e164, hx164_0, hx164_1, hx164_2, hx164_3, hx164_4, hx164_5⟩ := at_T39 HR0.out x7_1 p164 q164
              cases e164
              replace p164 := eq_true p164
              replace q164 := eq_true q164
              go_wp2
              go_ret
              exact ⟨by first | rfl | (simp; done) | (simp [*]; done), by repeat (first | exact Drawn0.refl _ | apply Drawn0.step)⟩
            · rw [if_neg c7] at H
              have c7b0 : (((rd_T39 l0 x7_1).f0) == 3) = false := beq_eq_false_iff_ne.mpr c7
              have c7b1 : (((rd_T39 l0 x7_1).f0) != 3) = true := bne_iff_ne.mpr c7
              have H' := Aside0.mk H
              clear H
              have p164 : 0 ≤ (x7_1 : Int) := of_decide_eq_true (by first | (with_reducible assumption) | assumption)
              have q164 : x7_1 < (l0.length : Int) := of_decide_eq_true (by first | (with_reducible assumption) | assumption)
              obtain ⟨ad164, e164, hx164_0, hx164_1, hx164_2, hx164_3, hx164_4, hx164_5⟩ := at_T39 HR0.out x7_1 p164 q164
              cases e164
              replace p164 := eq_true p164
              replace q164 := eq_true q164
              go_wp2
              go_roundg k1
              case measure => have := HK1.out; omega
              case rel => exact ⟨(wrap64 (x7_1 + 1)), (by first | rfl | (simp; done) | (simp [*]; done)), H', ⟨by have := HK1.out; omega⟩, by repeat (first | exact Drawn0.refl _ | apply Drawn0.step)⟩
          · rw [if_neg c6] at H
            exact absurd H (by simp)
        · rw [if_neg c5] at H
          exact absurd H (by simp)
      · rw [if_neg c4] at H
        have c4b0 : decide (x7_1 < a2) = false := decide_eq_false c4
        clear c4
        obtain rfl := Option.some.inj H
        go_wp2
        go_ret
        exact ⟨by first | rfl | (simp; done) | (simp [*]; done), by repeat (first | exact Drawn0.refl _ | apply Drawn0.step)⟩

end Go.Proofs.Ytidghmgaaenihaa.Q

/-! part Q67 -/
namespace Go.Proofs.Ytidghmgaaenihaa.Q
open Go.RowKit Go.Proofs.YtidghmgaaenihaaW.PrintWords Go.Proofs.YtidghmgaaenihaaW.PrintLast Go.Proofs.YtidghmgaaenihaaW.PrintMore
attribute [local go_sem] max2_int min2_int max_two min_two max_three min_three max_four min_four
set_option linter.unusedVariables false
set_option linter.unusedSimpArgs false

/-! ### tegularef45_call: function 67 -/
def tegularef45_call.j0 : Nat → Bool → Int → Int → Bool → Int → Int → Bool → Option (Bool)
  | 0, _, _, _, _, _, _, _ => none
  | k + 1, x15, x164000, x164001, x164002, x164003, x164004, x164005 => if x15 = true then (some false) else (if x164002 = true then (some true) else (if x164004 = 0 then (if x164005 = true then (some (x164003 == 0)) else (some true)) else (some false)))
def tegularef45_call.f (k : Nat) (a0_0 : Int) (a0_1 : Int) (a0_2 : Bool) (a0_3 : Int) (a0_4 : Int) (a0_5 : Bool) : Option (Bool) := if a0_1 < 0 then (tegularef45_call.j0 k true a0_0 a0_1 a0_2 a0_3 a0_4 a0_5) else (if a0_3 < 0 then (tegularef45_call.j0 k true a0_0 a0_1 a0_2 a0_3 a0_4 a0_5) else (tegularef45_call.j0 k (decide (a0_4 < 0)) a0_0 a0_1 a0_2 a0_3 a0_4 a0_5))
theorem tegularef45_call.mono_l : ∀ k, (∀ y0 y1 y2 y3 y4 y5 y6, LeO (tegularef45_call.j0 k y0 y1 y2 y3 y4 y5 y6) (tegularef45_call.j0 (k + 1) y0 y1 y2 y3 y4 y5 y6))
  | 0 => fun _ _ _ _ _ _ _ r h => by simp [tegularef45_call.j0] at h
  | k + 1 => by
    have ih0 := tegularef45_call.mono_l k
    · intro y0 y1 y2 y3 y4 y5 y6
      unfold tegularef45_call.j0
      repeat' first
      | (with_reducible exact ih0 _ _ _ _ _ _ _)
      | (with_reducible exact LeO.refl _)
      | (with_reducible exact LeO.none _)
      | (with_reducible refine LeO.ite ?_ ?_)
      | (with_reducible refine LeO.bind ?_ (fun _ => ?_))
      | exact ih0 _ _ _ _ _ _ _
      | exact LeO.none _
      | refine LeO.ite ?_ ?_
      | refine LeO.bind ?_ (fun _ => ?_)
theorem tegularef45_call.mono : ∀ a0 a1 a2 a3 a4 a5 k, LeO (tegularef45_call.f k a0 a1 a2 a3 a4 a5) (tegularef45_call.f (k + 1) a0 a1 a2 a3 a4 a5) := by
  intro a0 a1 a2 a3 a4 a5 k
  have ih0 := tegularef45_call.mono_l k
  unfold tegularef45_call.f
  repeat' first
      | (with_reducible exact ih0 _ _ _ _ _ _ _)
      | (with_reducible exact LeO.refl _)
      | (with_reducible exact LeO.none _)
      | (with_reducible refine LeO.ite ?_ ?_)
      | (with_reducible refine LeO.bind ?_ (fun _ => ?_))
      | exact ih0 _ _ _ _ _ _ _
      | exact LeO.none _
      | refine LeO.ite ?_ ?_
      | refine LeO.bind ?_ (fun _ => ?_)
set_option maxHeartbeats 8000000 in
set_option maxRecDepth 100000 in
theorem tegularef45_call.calls (k : Nat) (a0_0 : Int) (a0_1 : Int) (a0_2 : Bool) (a0_3 : Int) (a0_4 : Int) (a0_5 : Bool) (r : Bool) (w : World) (h : tegularef45_call.f k a0_0 a0_1 a0_2 a0_3 a0_4 a0_5 = some r) :
    Calls Try.prog 67 #[.agg #[.int .i64 a0_0, .int .i64 a0_1, .bool a0_2, .int .i64 a0_3, .int .i64 a0_4, .bool a0_5]] w fun e w' => e = .returned (.bool r) ∧ Below w.heap.size w w' := by
  have hu39 := Try.underlying39
  have HB := Aside0.mk (Below.refl w.heap.size w)
  have H : (if a0_1 < 0 then (tegularef45_call.j0 k true a0_0 a0_1 a0_2 a0_3 a0_4 a0_5) else (if a0_3 < 0 then (tegularef45_call.j0 k true a0_0 a0_1 a0_2 a0_3 a0_4 a0_5) else (tegularef45_call.j0 k (decide (a0_4 < 0)) a0_0 a0_1 a0_2 a0_3 a0_4 a0_5))) = some r := h
  clear h
  have HC2 := Aside0.mk H
  clear H
  go_enter Try.func67, Try.ntmps67
  go_upto_region 1 with (first | ((with_reducible refine gate_dst (N := 1) rfl ?_); refine box_event ?hg (N := 1) ?hd (cs := #[.int .i64 a0_0, .int .i64 a0_1, .bool a0_2, .int .i64 a0_3, .int .i64 a0_4, .bool a0_5]) (t := 39) ?hr ?_; (case hd => rfl); (case hg => rfl); (case hr => first | (go_simp; done) | (go_simp; rfl)); intro gb163 hg w3 hbox hb; have n0_ := Aside0.mk (below_step (by repeat (first | (with_reducible first | exact HB.out | apply below_alloc | apply pw_below_drewN | apply below_drew1) | exact HB.out)) hb); have n1_ := Aside0.mk (hbox); have n2_ := Aside0.mk ((by rw [hg]; exact (below_size (by repeat (first | (with_reducible first | exact HB.out | apply below_alloc | apply pw_below_drewN | apply below_drew1) | exact HB.out))) : w.heap.size ≤ gb163)); have n3_ := Aside0.mk ((by rw [hg]; exact (below_size (by repeat (first | (with_reducible first | exact HB.out | apply below_alloc | apply pw_below_drewN | apply below_drew1) | exact HB.out))) : w.heap.size ≤ gb163)); clear HB; have HB := n0_; have BK163 := n1_; have GW163 := n2_; have GE163 := n3_; clear n0_ n1_ n2_ n3_; clear hb hbox hg))
  (try simp only [Act.put, List.setIfInBounds_toArray, List.set_cons_zero, List.set_cons_succ])
  go_cut [15] (fun v15 wc => ∃ (kq : Nat) (x15_1 : Bool), v15 = .bool x15_1 ∧ Aside0 (tegularef45_call.j0 kq x15_1 a0_0 a0_1 a0_2 a0_3 a0_4 a0_5 = some r) ∧ Aside0 (kq ≤ k) ∧ Aside0 (wc.heap[gb163]? = some (.cells #[.int .i64 a0_0, .int .i64 a0_1, .bool a0_2, .int .i64 a0_3, .int .i64 a0_4, .bool a0_5] 39 (0, 0))) ∧ Aside0 (Below w.heap.size w wc))
  case first =>
    have H := HC2.out
    clear HC2
    by_cases c4 : a0_1 < 0
    · rw [if_pos c4] at H
      have c4b0 : decide (a0_1 < 0) = true := decide_eq_true c4
      clear c4
      (first | rw [c4b0] | (simp only [i64_w, i32_w]; rw [c4b0]) | skip)
      have H' := Aside0.mk H
      clear H
      have hcz5_0 : w3.cell? ⟨gb163, 0, none⟩ = some (.int .i64 a0_0) := (blk_cell BK163.out 0).trans rfl
      have hcz5_1 : w3.cell? ⟨gb163, 1, none⟩ = some (.int .i64 a0_1) := (blk_cell BK163.out 1).trans rfl
      have hcz5_2 : w3.cell? ⟨gb163, 2, none⟩ = some (.bool a0_2) := (blk_cell BK163.out 2).trans rfl
      have hcz5_3 : w3.cell? ⟨gb163, 3, none⟩ = some (.int .i64 a0_3) := (blk_cell BK163.out 3).trans rfl
      have hcz5_4 : w3.cell? ⟨gb163, 4, none⟩ = some (.int .i64 a0_4) := (blk_cell BK163.out 4).trans rfl
      have hcz5_5 : w3.cell? ⟨gb163, 5, none⟩ = some (.bool a0_5) := (blk_cell BK163.out 5).trans rfl
      have hfz5_0 := blk_frozen BK163.out 0
      have hfz5_1 := blk_frozen BK163.out 1
      have hfz5_2 := blk_frozen BK163.out 2
      have hfz5_3 := blk_frozen BK163.out 3
      have hfz5_4 := blk_frozen BK163.out 4
      have hfz5_5 := blk_frozen BK163.out 5
      go_wp2
      go_meet
      case rel => exact ⟨_, (true), (by first | rfl | (simp; done) | (simp [*]; done)), H', ⟨by first | omega | exact Nat.le_refl _⟩, ⟨by (with_reducible repeat (first | refine blk_drewN ?_ _ | refine blk_drew ?_ | refine blk_alloc ?_ _)); exact BK163.out⟩, ⟨by repeat (first | (with_reducible first | exact HB.out | apply below_alloc | apply pw_below_drewN | apply below_drew1 | refine below_set ?_ GE163.out) | exact HB.out)⟩⟩
    · rw [if_neg c4] at H
      have c4b0 : decide (a0_1 < 0) = false := decide_eq_false c4
      clear c4
      (first | rw [c4b0] | (simp only [i64_w, i32_w]; rw [c4b0]) | skip)
      by_cases c6 : a0_3 < 0
      · rw [if_pos c6] at H
        have c6b0 : decide (a0_3 < 0) = true := decide_eq_true c6
        clear c6
        have H' := Aside0.mk H
        clear H
        have hcz7_0 : w3.cell? ⟨gb163, 0, none⟩ = some (.int .i64 a0_0) := (blk_cell BK163.out 0).trans rfl
        have hcz7_1 : w3.cell? ⟨gb163, 1, none⟩ = some (.int .i64 a0_1) := (blk_cell BK163.out 1).trans rfl
        have hcz7_2 : w3.cell? ⟨gb163, 2, none⟩ = some (.bool a0_2) := (blk_cell BK163.out 2).trans rfl
        have hcz7_3 : w3.cell? ⟨gb163, 3, none⟩ = some (.int .i64 a0_3) := (blk_cell BK163.out 3).trans rfl
        have hcz7_4 : w3.cell? ⟨gb163, 4, none⟩ = some (.int .i64 a0_4) := (blk_cell BK163.out 4).trans rfl
        have hcz7_5 : w3.cell? ⟨gb163, 5, none⟩ = some (.bool a0_5) := (blk_cell BK163.out 5).trans rfl
        have hfz7_0 := blk_frozen BK163.out 0
        have hfz7_1 := blk_frozen BK163.out 1
        have hfz7_2 := blk_frozen BK163.out 2
        have hfz7_3 := blk_frozen BK163.out 3
        have hfz7_4 := blk_frozen BK163.out 4
        have hfz7_5 := blk_frozen BK163.out 5
        go_wp2
        go_meet
        case rel => exact ⟨_, (true), (by first | rfl | (simp; done) | (simp [*]; done)), H', ⟨by first | omega | exact Nat.le_refl _⟩, ⟨by (with_reducible repeat (first | refine blk_drewN ?_ _ | refine blk_drew ?_ | refine blk_alloc ?_ _)); exact BK163.out⟩, ⟨by repeat (first | (with_reducible first | exact HB.out | apply below_alloc | apply pw_below_drewN | apply below_drew1 | refine below_set ?_ GE163.out) | exact HB.out)⟩⟩
      · rw [if_neg c6] at H
        have c6b0 : decide (a0_3 < 0) = false := decide_eq_false c6
        clear c6
        have H' := Aside0.mk H
        clear H
        have hcz8_0 : w3.cell? ⟨gb163, 0, none⟩ = some (.int .i64 a0_0) := (blk_cell BK163.out 0).trans rfl
        have hcz8_1 : w3.cell? ⟨gb163, 1, none⟩ = some (.int .i64 a0_1) := (blk_cell BK163.out 1).trans rfl
        have hcz8_2 : w3.cell? ⟨gb163, 2, none⟩ = some (.bool a0_2) := (blk_cell BK163.out 2).trans rfl
        have hcz8_3 : w3.cell? ⟨gb163, 3, none⟩ = some (.int .i64 a0_3) := (blk_cell BK163.out 3).trans rfl
        have hcz8_4 : w3.cell? ⟨gb163, 4, none⟩ = some (.int .i64 a0_4) := (blk_cell BK163.out 4).trans rfl
        have hcz8_5 : w3.cell? ⟨gb163, 5, none⟩ = some (.bool a0_5) := (blk_cell BK163.out 5).trans rfl
        have hfz8_0 := blk_frozen BK163.out 0
        have hfz8_1 := blk_frozen BK163.out 1
        have hfz8_2 := blk_frozen BK163.out 2
        have hfz8_3 := blk_frozen BK163.out 3
        have hfz8_4 := blk_frozen BK163.out 4
        have hfz8_5 := blk_frozen BK163.out 5
        go_wp2
        go_meet
        case rel => exact ⟨_, (decide (a0_4 < 0)), (by first | rfl | (simp; done) | (simp [*]; done)), H', ⟨by first | omega | exact Nat.le_refl _⟩, ⟨by (with_reducible repeat (first | refine blk_drewN ?_ _ | refine blk_drew ?_ | refine blk_alloc ?_ _)); exact BK163.out⟩, ⟨by repeat (first | (with_reducible first | exact HB.out | apply below_alloc | apply pw_below_drewN | apply below_drew1 | refine below_set ?_ GE163.out) | exact HB.out)⟩⟩
  case rest =>
    clear HC2
    try clear p2
    try clear c4
    try clear c4b0
    try clear c6
    try clear c6b0
    try clear hcz5_0
    try clear hcz5_1
    try clear hcz5_2
    try clear hcz5_3
    try clear hcz5_4
    try clear hcz5_5
    try clear hcz7_0
    try clear hcz7_1
    try clear hcz7_2
    try clear hcz7_3
    try clear hcz7_4
    try clear hcz7_5
    try clear hcz8_0
    try clear hcz8_1
    try clear hcz8_2
    try clear hcz8_3
    try clear hcz8_4
    try clear hcz8_5
    try clear hfz5_0
    try clear hfz5_1
    try clear hfz5_2
    try clear hfz5_3
    try clear hfz5_4
    try clear hfz5_5
    try clear hfz7_0
    try clear hfz7_1
    try clear hfz7_2
    try clear hfz7_3
    try clear hfz7_4
    try clear hfz7_5
    try clear hfz8_0
    try clear hfz8_1
    try clear hfz8_2
    try clear hfz8_3
    try clear hfz8_4
    try clear hfz8_5
    obtain ⟨kq, x15_1, rfl, HA, HJ1, BK163, HB⟩ := hcut
    cases kq with
    | zero => exact absurd HA.out (by simp [tegularef45_call.j0])
    | succ kj1 =>
      have H := HA.out
      clear HA
      simp only [tegularef45_call.j0] at H
      by_cases c9 : x15_1 = true
      · subst c9
        have H1 : (some false) = some r := by rw [if_pos rfl] at H; exact H
        clear H
        have H := H1
        clear H1
        obtain rfl := Option.some.inj H
        go_wp2
        go_ret
        exact ⟨by first | rfl | (simp [errW_none, errW_some] <;> rfl) | (simp [*, errW_none, errW_some] <;> rfl), by repeat (first | (with_reducible first | exact HB.out | apply below_alloc | apply pw_below_drewN | apply below_drew1 | refine below_set ?_ GE163.out) | exact HB.out)⟩
      · replace c9 := Bool.eq_false_iff.mpr c9
        subst c9
        have H1 : (if a0_2 = true then (some true) else (if a0_4 = 0 then (if a0_5 = true then (some (a0_3 == 0)) else (some true)) else (some false))) = some r := by rw [if_neg (show ¬ (false = true) by decide)] at H; exact H
        clear H
        have H := H1
        clear H1
        by_cases c10 : a0_2 = true
        · subst c10
          have H1 : (some true) = some r := by rw [if_pos rfl] at H; exact H
          clear H
          have H := H1
          clear H1
          obtain rfl := Option.some.inj H
          have hcz11_0 : wc.cell? ⟨gb163, 0, none⟩ = some (.int .i64 a0_0) := (blk_cell BK163.out 0).trans rfl
          have hcz11_1 : wc.cell? ⟨gb163, 1, none⟩ = some (.int .i64 a0_1) := (blk_cell BK163.out 1).trans rfl
          have hcz11_2 : wc.cell? ⟨gb163, 2, none⟩ = some (.bool true) := (blk_cell BK163.out 2).trans rfl
          have hcz11_3 : wc.cell? ⟨gb163, 3, none⟩ = some (.int .i64 a0_3) := (blk_cell BK163.out 3).trans rfl
          have hcz11_4 : wc.cell? ⟨gb163, 4, none⟩ = some (.int .i64 a0_4) := (blk_cell BK163.out 4).trans rfl
          have hcz11_5 : wc.cell? ⟨gb163, 5, none⟩ = some (.bool a0_5) := (blk_cell BK163.out 5).trans rfl
          have hfz11_0 := blk_frozen BK163.out 0
          have hfz11_1 := blk_frozen BK163.out 1
          have hfz11_2 := blk_frozen BK163.out 2
          have hfz11_3 := blk_frozen BK163.out 3
          have hfz11_4 := blk_frozen BK163.out 4
          have hfz11_5 := blk_frozen BK163.out 5
          go_wp2
          go_ret
          exact ⟨by first | rfl | (simp [errW_none, errW_some] <;> rfl) | (simp [*, errW_none, errW_some] <;> rfl), by repeat (first | (with_reducible first | exact HB.out | apply below_alloc | apply pw_below_drewN | apply below_drew1 | refine below_set ?_ GE163.out) | exact HB.out)⟩
        · replace c10 := Bool.eq_false_iff.mpr c10
          subst c10
          have H1 : (if a0_4 = 0 then (if a0_5 = true then (some (a0_3 == 0)) else (some true)) else (some false)) = some r := by rw [if_neg (show ¬ (false = true) by decide)] at H; exact H
          clear H
          have H := H1
          clear H1
          by_cases c12 : a0_4 = 0
          · rw [if_pos c12] at H
            have c12b0 : (a0_4 == 0) = true := beq_iff_eq.mpr c12
            have c12b1 : (a0_4 != 0) = false := bne_eq_false_iff_eq.mpr c12
            clear c12
            by_cases c13 : a0_5 = true
            · subst c13
              have H1 : (some (a0_3 == 0)) = some r := by rw [if_pos rfl] at H; exact H
              clear H
              have H := H1
              clear H1
              obtain rfl := Option.some.inj H
              have hcz14_0 : wc.cell? ⟨gb163, 0, none⟩ = some (.int .i64 a0_0) := (blk_cell BK163.out 0).trans rfl
              have hcz14_1 : wc.cell? ⟨gb163, 1, none⟩ = some (.int .i64 a0_1) := (blk_cell BK163.out 1).trans rfl
              have hcz14_2 : wc.cell? ⟨gb163, 2, none⟩ = some (.bool false) := (blk_cell BK163.out 2).trans rfl
              have hcz14_3 : wc.cell? ⟨gb163, 3, none⟩ = some (.int .i64 a0_3) := (blk_cell BK163.out 3).trans rfl
              have hcz14_4 : wc.cell? ⟨gb163, 4, none⟩ = some (.int .i64 a0_4) := (blk_cell BK163.out 4).trans rfl
              have hcz14_5 : wc.cell? ⟨gb163, 5, none⟩ = some (.bool true) := (blk_cell BK163.out 5).trans rfl
              have hfz14_0 := blk_frozen BK163.out 0
              have hfz14_1 := blk_frozen BK163.out 1
              have hfz14_2 := blk_frozen BK163.out 2
              have hfz14_3 := blk_frozen BK163.out 3
              have hfz14_4 := blk_frozen BK163.out 4
              have hfz14_5 := blk_frozen BK163.out 5
              go_wp2
              go_ret
              exact ⟨by first | rfl | (simp [errW_none, errW_some] <;> rfl) | (simp [*, errW_none, errW_some] <;> rfl), by repeat (first | (with_reducible first | exact HB.out | apply below_alloc | apply pw_below_drewN | apply below_drew1 | refine below_set ?_ GE163.out) | exact HB.out)⟩
            · replace c13 := Bool.eq_false_iff.mpr c13
              subst c13
              have H1 : (some true) = some r := by rw [if_neg (show ¬ (false = true) by decide)] at H; exact H
              clear H
              have H := H1
              clear H1
              obtain rfl := Option.some.inj H
              have hcz15_0 : wc.cell? ⟨gb163, 0, none⟩ = some (.int .i64 a0_0) := (blk_cell BK163.out 0).trans rfl
              have hcz15_1 : wc.cell? ⟨gb163, 1, none⟩ = some (.int .i64 a0_1) := (blk_cell BK163.out 1).trans rfl
              have hcz15_2 : wc.cell? ⟨gb163, 2, none⟩ = some (.bool false) := (blk_cell BK163.out 2).trans rfl
              have hcz15_3 : wc.cell? ⟨gb163, 3, none⟩ = some (.int .i64 a0_3) := (blk_cell BK163.out 3).trans rfl
              have hcz15_4 : wc.cell? ⟨gb163, 4, none⟩ = some (.int .i64 a0_4) := (blk_cell BK163.out 4).trans rfl
              have hcz15_5 : wc.cell? ⟨gb163, 5, none⟩ = some (.bool false) := (blk_cell BK163.out 5).trans rfl
              have hfz15_0 := blk_frozen BK163.out 0
              have hfz15_1 := blk_frozen BK163.out 1
              have hfz15_2 := blk_frozen BK163.out 2
              have hfz15_3 := blk_frozen BK163.out 3
              have hfz15_4 := blk_frozen BK163.out 4
              have hfz15_5 := blk_frozen BK163.out 5
              go_wp2
              go_ret
              exact ⟨by first | rfl | (simp [errW_none, errW_some] <;> rfl) | (simp [*, errW_none, errW_some] <;> rfl), by repeat (first | (with_reducible first | exact HB.out | apply below_alloc | apply pw_below_drewN | apply below_drew1 | refine below_set ?_ GE163.out) | exact HB.out)⟩
          · rw [if_neg c12] at H
            have c12b0 : (a0_4 == 0) = false := beq_eq_false_iff_ne.mpr c12
            have c12b1 : (a0_4 != 0) = true := bne_iff_ne.mpr c12
            obtain rfl := Option.some.inj H
            have hcz16_0 : wc.cell? ⟨gb163, 0, none⟩ = some (.int .i64 a0_0) := (blk_cell BK163.out 0).trans rfl
            have hcz16_1 : wc.cell? ⟨gb163, 1, none⟩ = some (.int .i64 a0_1) := (blk_cell BK163.out 1).trans rfl
            have hcz16_2 : wc.cell? ⟨gb163, 2, none⟩ = some (.bool false) := (blk_cell BK163.out 2).trans rfl
            have hcz16_3 : wc.cell? ⟨gb163, 3, none⟩ = some (.int .i64 a0_3) := (blk_cell BK163.out 3).trans rfl
            have hcz16_4 : wc.cell? ⟨gb163, 4, none⟩ = some (.int .i64 a0_4) := (blk_cell BK163.out 4).trans rfl
            have hcz16_5 : wc.cell? ⟨gb163, 5, none⟩ = some (.bool a0_5) := (blk_cell BK163.out 5).trans rfl
            have hfz16_0 := blk_frozen BK163.out 0
            have hfz16_1 := blk_frozen BK163.out 1
            have hfz16_2 := blk_frozen BK163.out 2
            have hfz16_3 := blk_frozen BK163.out 3
            have hfz16_4 := blk_frozen BK163.out 4
            have hfz16_5 := blk_frozen BK163.out 5
            go_wp2
            go_ret
            exact ⟨by first | rfl | (simp [errW_none, errW_some] <;> rfl) | (simp [*, errW_none, errW_some] <;> rfl), by repeat (first | (with_reducible first | exact HB.out | apply below_alloc | apply pw_below_drewN | apply below_drew1 | refine below_set ?_ GE163.out) | exact HB.out)⟩

end Go.Proofs.Ytidghmgaaenihaa.Q

/-! part RFind -/
namespace Go.Proofs.Ytidghmgaaenihaa.Q
open Go.RowKit Go.Proofs.YtidghmgaaenihaaW.PrintWords Go.Proofs.YtidghmgaaenihaaW.PrintLast Go.Proofs.YtidghmgaaenihaaW.PrintMore
set_option linter.unusedVariables false
set_option linter.unusedSimpArgs false

def isEv (kind op : Int) (e : S39) : Bool := e.f0 == kind && e.f1 == op
def findI (l : List S39) (kind op : Int) (n : Nat) : Int := match (l.take n).findIdx? (isEv kind op) with | some i => i | none => -1
def cutR (l : List S39) (a b : Nat) : Bool := ((l.take b).drop a).any (fun e => e.f0 == 3)
def callR (e : S39) : Bool := !(decide (e.f1 < 0) || decide (e.f3 < 0) || decide (e.f4 < 0)) && (e.f2 || (e.f4 == 0 && (!e.f5 || e.f3 == 0)))

theorem wrap_succ {x : Int} (h0 : 0 ≤ x) (h1 : x < 9223372036854775807) : wrap64 (x + 1) = x + 1 := by
  unfold wrap64; omega
theorem rd39_at {l : List S39} {x : Int} (h0 : 0 ≤ x) (h : x < l.length) : rd_T39 l x = l[x.toNat]'(by omega) := by
  simp [rd_T39, List.getD_eq_getElem?_getD, show x.toNat < l.length by omega]
theorem find_l0 (l : List S39) (kind op : Int) (n : Nat) (hn : n ≤ l.length) (hsz : l.length ≤ 1000000) : ∀ (d x : Nat), n - x = d → x ≤ n → (∀ e ∈ l.take x, isEv kind op e = false) → tegularef45_find.l0 (d + 1) l kind op n x = some (findI l kind op n)
  | 0, x, hd, hx, hno => by
    obtain rfl : x = n := by omega
    rw [tegularef45_find.l0, if_neg (by omega)]
    have : (l.take x).findIdx? (isEv kind op) = none := List.findIdx?_eq_none_iff.2 hno
    simp only [findI, this]
  | d + 1, x, hd, hx, hno => by
    have hxl : x < l.length := by omega
    have hr : rd_T39 l (x : Int) = l[x] := by rw [rd39_at (by omega) (by omega)]; simp
    have ih := find_l0 l kind op n hn hsz d (x + 1) (by omega) (by omega)
    rw [tegularef45_find.l0, if_pos (by omega), if_pos (by omega), if_pos (by omega), hr, wrap_succ (by omega) (by omega), show ((x : Int) + 1) = ((x + 1 : Nat) : Int) by omega]
    by_cases hm : isEv kind op l[x] = true
    · have h0 : l[x].f0 = kind := by simp [isEv] at hm; exact hm.1
      have h1 : l[x].f1 = op := by simp [isEv] at hm; exact hm.2
      rw [if_pos h0, if_pos h1]
      have : (l.take n).findIdx? (isEv kind op) = some x := by
        refine List.findIdx?_eq_some_iff_getElem.2 ⟨by simp; omega, by simpa using hm, fun j hj => ?_⟩
        rw [hno _ (List.mem_iff_getElem.2 ⟨j, by simp; omega, by simp⟩)]; decide
      simp only [findI, this]
    · have hf : isEv kind op l[x] = false := by simpa using hm
      have ih2 := ih (by
        intro e he
        rw [List.take_succ_eq_append_getElem hxl, List.mem_append, List.mem_singleton] at he
        rcases he with he | rfl
        · exact hno e he
        · exact hf)
      by_cases h0 : l[x].f0 = kind
      · have h1 : ¬ l[x].f1 = op := by intro h1; simp [isEv, h0, h1] at hf
        rw [if_pos h0, if_neg h1]; exact ih2
      · rw [if_neg h0]; exact ih2
theorem find_any (A : Option Addr) (c : Nat) (l : List S39) (kind op : Int) (n : Nat) (w : World) (hr : Kd.C k39 w A l.length l) (hc : l.length ≤ c) (hn : n ≤ l.length) (hsz : l.length ≤ 1000000) :
    Calls Try.prog 97 #[.slice A l.length c, .int .i64 kind, .int .i64 op, .int .i64 n] w fun e w' => e = .returned (.int .i64 (findI l kind op n)) ∧ Drawn0 w w' :=
  tegularef45_find.calls (n + 1) A c l kind op n _ w hr hc (find_l0 l kind op n hn hsz n 0 (by omega) (by omega) (by simp))

theorem cut_l0 (l : List S39) (a n : Nat) (hn : n ≤ l.length) (hsz : l.length ≤ 1000000) : ∀ (d x : Nat), n - x = d → x ≤ n → tegularef45_cut.l0 (d + 1) l n x = some (cutR l x n)
  | 0, x, hd, hx => by
    obtain rfl : x = n := by omega
    rw [tegularef45_cut.l0, if_neg (by omega)]
    simp [cutR]
  | d + 1, x, hd, hx => by
    have hxl : x < l.length := by omega
    have hr : rd_T39 l (x : Int) = l[x] := by rw [rd39_at (by omega) (by omega)]; simp
    have ih := cut_l0 l a n hn hsz d (x + 1) (by omega) (by omega)
    have e : cutR l x n = (l[x].f0 == 3 || cutR l (x + 1) n) := by
      unfold cutR
      rw [List.drop_eq_getElem_cons (show x < (l.take n).length by simp; omega), List.any_cons]
      simp
    rw [tegularef45_cut.l0, if_pos (by omega), if_pos (by omega), if_pos (by omega), hr, wrap_succ (by omega) (by omega), show ((x : Int) + 1) = ((x + 1 : Nat) : Int) by omega, e]
    by_cases h0 : l[x].f0 = 3
    · rw [if_pos h0, h0]; rfl
    · rw [if_neg h0, ih]; simp [h0]
theorem cut_any (A : Option Addr) (c : Nat) (l : List S39) (a n : Nat) (w : World) (hr : Kd.C k39 w A l.length l) (hc : l.length ≤ c) (ha : a ≤ n) (hn : n ≤ l.length) (hsz : l.length ≤ 1000000) :
    Calls Try.prog 79 #[.slice A l.length c, .int .i64 a, .int .i64 n] w fun e w' => e = .returned (.bool (cutR l a n)) ∧ Drawn0 w w' :=
  tegularef45_cut.calls (n - a + 1) A c l a n _ w hr hc (cut_l0 l a n hn hsz (n - a) a rfl ha)

theorem call_f (e : S39) : tegularef45_call.f 1 e.f0 e.f1 e.f2 e.f3 e.f4 e.f5 = some (callR e) := by
  unfold tegularef45_call.f callR
  simp only [tegularef45_call.j0]
  by_cases h1 : e.f1 < 0
  · simp [h1]
  · by_cases h3 : e.f3 < 0
    · simp [h1, h3]
    · by_cases h4 : e.f4 < 0
      · simp [h1, h3, h4]
      · cases h2 : e.f2 <;> by_cases h40 : e.f4 = 0 <;> cases h5 : e.f5 <;> simp [h1, h3, h4, h40]
theorem call_any (e : S39) (w : World) : Calls Try.prog 67 #[.agg #[.int .i64 e.f0, .int .i64 e.f1, .bool e.f2, .int .i64 e.f3, .int .i64 e.f4, .bool e.f5]] w fun e_ w' => e_ = .returned (.bool (callR e)) ∧ Below w.heap.size w w' :=
  tegularef45_call.calls 1 _ _ _ _ _ _ _ w (call_f e)
end Go.Proofs.Ytidghmgaaenihaa.Q

/-! part REvent -/
namespace Go.Proofs.Ytidghmgaaenihaa.Q
open Go.RowKit Go.Proofs.YtidghmgaaenihaaW.PrintWords Go.Proofs.YtidghmgaaenihaaW.PrintLast Go.Proofs.YtidghmgaaenihaaW.PrintMore
set_option linter.unusedVariables false
set_option linter.unusedSimpArgs false

def ansR (e c : S39) : Bool := e.f2 == c.f2 && (e.f5 == c.f5 && (e.f3 == c.f3 && ((!c.f2 && !c.f5) || e.f4 == c.f4)))
def eventE (l : List S39) (i : Nat) (e : S39) : Bool :=
  if e.f0 = 3 then isCut e
  else if e.f0 = 1 then callR e && decide (findI l 1 e.f1 i < 0)
  else if e.f0 = 2 then
    (if findI l 1 e.f1 i < 0 then false else if 0 ≤ findI l 2 e.f1 i then false
     else if cutR l (findI l 1 e.f1 i).toNat i = true then false else ansR e (rd_T39 l (findI l 1 e.f1 i)))
  else false
def eventR (l : List S39) (i : Nat) : Bool := eventE l i (rd_T39 l i)

theorem findI_range (l : List S39) (kind op : Int) (n : Nat) (hn : n ≤ l.length) : -1 ≤ findI l kind op n ∧ findI l kind op n < n := by
  unfold findI
  cases h : (l.take n).findIdx? (isEv kind op) with
  | none => simp only; omega
  | some i =>
    obtain ⟨h1, _⟩ := List.findIdx?_eq_some_iff_getElem.1 h
    rw [List.length_take] at h1
    simp only; omega

attribute [local go_sem high] eqA39
set_option maxHeartbeats 4000000 in
set_option maxRecDepth 100000 in
theorem event_any (A : Option Addr) (c : Nat) (l : List S39) (i : Nat) (w : World) (hr : Kd.C k39 w A l.length l) (hc : l.length ≤ c) (hi : i < l.length) (hsz : l.length ≤ 1000000) :
    Calls Try.prog 69 #[.slice A l.length c, .int .i64 i] w fun e w' => e = .returned (.bool (eventR l i)) ∧ Below w.heap.size w w' := by
  have HR := Aside0.mk hr
  obtain ⟨ad, eA, s0, s1, s2, s3, s4, s5⟩ := at_T39 hr i (by omega) (by omega)
  subst eA
  clear hr
  obtain ⟨e, HE⟩ : ∃ e, Aside0 (rd_T39 l i = e) := ⟨_, ⟨rfl⟩⟩
  rw [HE.out] at s0 s1 s2 s3 s4 s5
  simp only [Int.toNat_natCast] at s0 s1 s2 s3 s4 s5
  have HV : Aside0 (eventR l i = eventE l i e) := ⟨by rw [eventR, HE.out]⟩
  rw [HV.out]
  clear HV HE
  obtain ⟨e0, e1, e2, e3, e4, e5⟩ := e
  simp only at s0 s1 s2 s3 s4 s5
  by_cases h3 : e0 = 3
  · subst h3
    go_enter Try.func69, Try.ntmps69
    go_wp2
    go_ret
    exact ⟨by simp [eventE, isCut], by repeat (first | exact Below.refl _ _ | apply below_alloc | apply pw_below_drewN)⟩
  · have h3b : (e0 == 3) = false := by simpa using h3
    by_cases h1 : e0 = 1
    · subst h1
      clear h3
      obtain ⟨b, hb⟩ : ∃ b, callR ⟨1, e1, e2, e3, e4, e5⟩ = b := ⟨_, rfl⟩
      have HC := Aside0.mk hb
      clear hb
      cases b with
      | false =>
        go_enter Try.func69, Try.ntmps69
        go_wp2_with fail
        (with_reducible refine (call_any ⟨1, e1, e2, e3, e4, e5⟩ _).mono ?_)
        rintro e w1 ⟨rfl, hb⟩
        have HB := Aside0.mk hb
        rw [HC.out]
        clear hb
        go_wp2
        go_ret
        exact ⟨by simp [eventE, HC.out], below_step (below_alloc (Below.refl _ _) _) HB.out⟩
      | true =>
        obtain ⟨f, HF⟩ : ∃ f, Aside0 (findI l 1 e1 i = f) := ⟨_, ⟨rfl⟩⟩
        go_enter Try.func69, Try.ntmps69
        go_wp2_with fail
        (with_reducible refine (call_any ⟨1, e1, e2, e3, e4, e5⟩ _).mono ?_)
        rintro e w1 ⟨rfl, hb⟩
        have HB := Aside0.mk (below_step (below_alloc (Below.refl w.heap.size w) _) hb)
        rw [HC.out]
        have k0 : w1.cell? ⟨w.heap.size, 0, none⟩ = some (.int .i64 1) := (blk_cell (blk_old (blk_new w _) hb) 0).trans rfl
        have k1 : w1.cell? ⟨w.heap.size, 1, none⟩ = some (.int .i64 e1) := (blk_cell (blk_old (blk_new w _) hb) 1).trans rfl
        clear hb
        go_wp2_with fail
        (with_reducible refine (find_any (some ad) c l 1 e1 i _ (Kd.C_below HR.out HB.out) hc (by omega) hsz).mono ?_)
        rintro e w2 ⟨rfl, m, rfl⟩
        rw [HF.out]
        go_wp2
        go_ret
        exact ⟨by simp [eventE, HC.out, HF.out], pw_below_drewN HB.out m⟩
    · have h1b : (e0 == 1) = false := by simpa using h1
      by_cases h2 : e0 = 2
      · subst h2
        clear h3 h1
        obtain ⟨f, HF⟩ : ∃ f, Aside0 (findI l 1 e1 i = f) := ⟨_, ⟨rfl⟩⟩
        have hfr := findI_range l 1 e1 i (by omega)
        rw [HF.out] at hfr
        by_cases hf : f < 0
        · have hfb : decide (f < 0) = true := decide_eq_true hf
          go_enter Try.func69, Try.ntmps69
          go_wp2_with fail
          (with_reducible refine (find_any (some ad) c l 1 e1 i _ (Kd.C_below HR.out (below_alloc (Below.refl w.heap.size w) _)) hc (by omega) hsz).mono ?_)
          rintro e w2 ⟨rfl, m, rfl⟩
          rw [HF.out]
          go_wp2
          go_ret
          exact ⟨by simp [eventE, HF.out, hf], pw_below_drewN (below_alloc (Below.refl w.heap.size w) _) m⟩
        · have hfb : decide (f < 0) = false := decide_eq_false hf
          obtain ⟨k, rfl⟩ : ∃ k : Nat, f = k := ⟨f.toNat, by omega⟩
          obtain ⟨f2, HF2⟩ : ∃ f, Aside0 (findI l 2 e1 i = f) := ⟨_, ⟨rfl⟩⟩
          have HBA := Aside0.mk (fun m => show Below w.heap.size w ((w.alloc (.cells #[.int .i64 2, .int .i64 e1, .bool e2, .int .i64 e3, .int .i64 e4, .bool e5] 39)).drewN m) from pw_below_drewN (below_alloc (Below.refl w.heap.size w) _) m)
          by_cases hf2 : 0 ≤ f2
          · have hf2b : decide (0 ≤ f2) = true := decide_eq_true hf2
            go_enter Try.func69, Try.ntmps69
            go_wp2_with fail
            (with_reducible refine (find_any (some ad) c l 1 e1 i _ (Kd.C_below HR.out (below_alloc (Below.refl w.heap.size w) _)) hc (by omega) hsz).mono ?_)
            rintro e w2 ⟨rfl, m, rfl⟩
            rw [HF.out]
            go_wp2_with fail
            (with_reducible refine (find_any (some ad) c l 2 e1 i _ (Kd.C_below HR.out (HBA.out m)) hc (by omega) hsz).mono ?_)
            rintro e w2 ⟨rfl, m2, rfl⟩
            rw [HF2.out]
            go_wp2
            go_ret
            exact ⟨by simp [eventE, HF.out, HF2.out, hf, hf2], HBA.out (m + m2)⟩
          · have hf2b : decide (0 ≤ f2) = false := decide_eq_false hf2
            obtain ⟨b, HC⟩ : ∃ b, Aside0 (cutR l k i = b) := ⟨_, ⟨rfl⟩⟩
            cases b with
            | true =>
              go_enter Try.func69, Try.ntmps69
              go_wp2_with fail
              (with_reducible refine (find_any (some ad) c l 1 e1 i _ (Kd.C_below HR.out (below_alloc (Below.refl w.heap.size w) _)) hc (by omega) hsz).mono ?_)
              rintro e w2 ⟨rfl, m, rfl⟩
              rw [HF.out]
              go_wp2_with fail
              (with_reducible refine (find_any (some ad) c l 2 e1 i _ (Kd.C_below HR.out (HBA.out m)) hc (by omega) hsz).mono ?_)
              rintro e w2 ⟨rfl, m2, rfl⟩
              rw [HF2.out]
              go_wp2_with fail
              (with_reducible refine (cut_any (some ad) c l k i _ (Kd.C_below HR.out (HBA.out (m + m2))) hc (by omega) (by omega) hsz).mono ?_)
              rintro e w2 ⟨rfl, m3, rfl⟩
              rw [HC.out]
              go_wp2
              go_ret
              exact ⟨by simp [eventE, HF.out, HF2.out, hf, hf2, HC.out], HBA.out (m + m2 + m3)⟩
            | false =>
              obtain ⟨ad2, eA, t0, t1, t2, t3, t4, t5⟩ := at_T39 HR.out k (by omega) (by omega)
              have e := Option.some.inj eA
              subst e
              clear eA
              obtain ⟨cl, HCL⟩ : ∃ cl, Aside0 (rd_T39 l k = cl) := ⟨_, ⟨rfl⟩⟩
              rw [HCL.out] at t0 t1 t2 t3 t4 t5
              simp only [Int.toNat_natCast] at t0 t1 t2 t3 t4 t5
              have HV : Aside0 (eventE l i ⟨2, e1, e2, e3, e4, e5⟩ = ansR ⟨2, e1, e2, e3, e4, e5⟩ cl) := ⟨by simp [eventE, HF.out, HF2.out, hf, hf2, HC.out, HCL.out]⟩
              rw [HV.out]
              clear HV HCL
              obtain ⟨q0, q1, q2, q3, q4, q5⟩ := cl
              simp only at t0 t1 t2 t3 t4 t5
              have fin : ∀ b, ansR ⟨2, e1, e2, e3, e4, e5⟩ ⟨q0, q1, q2, q3, q4, q5⟩ = b → Calls Try.prog 69 #[.slice (some ad) l.length c, .int .i64 i] w fun e w' => e = .returned (.bool b) ∧ Below w.heap.size w w' := by
                intro b hb
                unfold ansR at hb
                simp only at hb
                go_enter Try.func69, Try.ntmps69
                go_wp2_with fail
                (with_reducible refine (find_any (some ad) c l 1 e1 i _ (Kd.C_below HR.out (below_alloc (Below.refl w.heap.size w) _)) hc (by omega) hsz).mono ?_)
                rintro e w2 ⟨rfl, m, rfl⟩
                rw [HF.out]
                go_wp2_with fail
                (with_reducible refine (find_any (some ad) c l 2 e1 i _ (Kd.C_below HR.out (HBA.out m)) hc (by omega) hsz).mono ?_)
                rintro e w2 ⟨rfl, m2, rfl⟩
                rw [HF2.out]
                go_wp2_with fail
                (with_reducible refine (cut_any (some ad) c l k i _ (Kd.C_below HR.out (HBA.out (m + m2))) hc (by omega) (by omega) hsz).mono ?_)
                rintro e w2 ⟨rfl, m3, rfl⟩
                rw [HC.out]
                have HB3 := Aside0.mk (HBA.out (m + m2 + m3))
                have T0 := (HB3.out.cell (World.block_lt_of_cell? w _ t0)).trans t0
                have T1 := (HB3.out.cell (World.block_lt_of_cell? w _ t1)).trans t1
                have T2 := (HB3.out.cell (World.block_lt_of_cell? w _ t2)).trans t2
                have T3 := (HB3.out.cell (World.block_lt_of_cell? w _ t3)).trans t3
                have T4 := (HB3.out.cell (World.block_lt_of_cell? w _ t4)).trans t4
                have T5 := (HB3.out.cell (World.block_lt_of_cell? w _ t5)).trans t5
                cases q2 <;> cases e2 <;> cases q5 <;> cases e5 <;>
                  (simp only [show (false == true) = false from rfl, show (true == false) = false from rfl, show (false == false) = true from rfl, show (true == true) = true from rfl, Bool.true_and, Bool.false_and, Bool.not_true, Bool.not_false, Bool.and_true, Bool.and_false, Bool.true_or, Bool.false_or] at hb
                   first
                   | (cases g3 : (e3 == q3) <;> rw [g3] at hb <;> (simp only [Bool.true_and, Bool.false_and] at hb; subst hb; go_wp2; go_ret; exact ⟨rfl, below_alloc HB3.out _⟩))
                   | (cases g3 : (e3 == q3) <;> rw [g3] at hb <;> (subst hb; go_wp2; go_ret; exact ⟨rfl, below_alloc HB3.out _⟩))
                   | (subst hb; go_wp2; go_ret; exact ⟨rfl, below_alloc HB3.out _⟩))
              exact fin _ rfl
      · have h2b : (e0 == 2) = false := by simpa using h2
        go_enter Try.func69, Try.ntmps69
        go_wp2
        go_ret
        exact ⟨by simp [eventE, h3, h1, h2], by repeat (first | exact Below.refl _ _ | apply below_alloc | apply pw_below_drewN)⟩
end Go.Proofs.Ytidghmgaaenihaa.Q

/-! part RValid -/
namespace Go.Proofs.Ytidghmgaaenihaa.Q
open Go.RowKit Go.Proofs.YtidghmgaaenihaaW.PrintWords Go.Proofs.YtidghmgaaenihaaW.PrintLast Go.Proofs.YtidghmgaaenihaaW.PrintMore
set_option linter.unusedVariables false
set_option linter.unusedSimpArgs false

def validR (l : List S39) : Bool := (List.range l.length).all (eventR l)
theorem validR_no {l : List S39} {x : Nat} (h : x < l.length) (he : eventR l x = false) : validR l = false := by
  unfold validR
  rw [List.all_eq_false]
  exact ⟨x, List.mem_range.2 h, by rw [he]; decide⟩
theorem validR_yes {l : List S39} (h : ∀ j, j < l.length → eventR l j = true) : validR l = true := by
  unfold validR
  rw [List.all_eq_true]
  exact fun x hx => h x (List.mem_range.1 hx)
set_option maxHeartbeats 2000000 in
set_option maxRecDepth 100000 in
theorem valid_any (A : Option Addr) (c : Nat) (l : List S39) (w : World) (hr : Kd.C k39 w A l.length l) (hc : l.length ≤ c) (hsz : l.length ≤ 1000000) :
    Calls Try.prog 40 #[.slice A l.length c] w fun e w' => e = .returned (.bool (validR l)) ∧ Below w.heap.size w w' := by
  have HR := Aside0.mk hr
  clear hr
  go_enter Try.func40, Try.ntmps40
  go_wp2
  go_loopw [3] (fun v3 wr => ∃ x : Nat, x ≤ l.length ∧ v3 = .int .i64 x ∧ Aside0 (∀ j, j < x → eventR l j = true) ∧ Aside0 (Below w.heap.size w wr))
    (fun v3 _ => l.length - (intOf v3).toNat)
  case atStart => exact ⟨0, by omega, rfl, ⟨fun j hj => absurd hj (by omega)⟩, ⟨Below.refl _ _⟩⟩
  case round =>
    obtain ⟨x, hx, rfl, HE, HW⟩ := hrel
    by_cases hlt : x < l.length
    · have hltb : ((x : Int) < (l.length : Int)) := by omega
      cases he : eventR l x with
      | false =>
        have HV := Aside0.mk he
        clear he
        go_wp2_with fail
        (with_reducible refine (event_any A c l x _ (Kd.C_below HR.out HW.out) hc hlt hsz).mono ?_)
        rintro e w1 ⟨rfl, hb⟩
        have HB := Aside0.mk (below_step HW.out hb)
        clear hb
        rw [HV.out]
        go_wp2
        go_ret
        exact ⟨by rw [validR_no hlt HV.out]; rfl, HB.out⟩
      | true =>
        have HV := Aside0.mk he
        clear he
        have hxb : (x : Int) < 1000000 := by omega
        go_wp2_with fail
        (with_reducible refine (event_any A c l x _ (Kd.C_below HR.out HW.out) hc hlt hsz).mono ?_)
        rintro e w1 ⟨rfl, hb⟩
        have HB := Aside0.mk (below_step HW.out hb)
        clear hb
        rw [HV.out]
        go_wp2
        go_roundw
        case rel => exact ⟨x + 1, by omega, by first | rfl | simp, ⟨fun j hj => (Nat.lt_succ_iff_lt_or_eq.1 hj).elim (HE.out j) (fun e => e ▸ HV.out)⟩, HB⟩
        case measure => simp [intOf]; omega
    · obtain rfl : x = l.length := by omega
      go_wp2
      go_ret
      exact ⟨by rw [validR_yes HE.out]; rfl, HW.out⟩
def tegularef45_Valid.f (l0 : List S39) : Option Bool := if l0.length ≤ 1000000 then some (validR l0) else none
theorem tegularef45_Valid.calls (A0 : Option Addr) (c0 : Nat) (l0 : List S39) (r : Bool) (w : World) (hr0 : Kd.C k39 w A0 l0.length l0) (hc0 : l0.length ≤ c0) (h : tegularef45_Valid.f l0 = some r) :
    Calls Try.prog 40 #[.slice A0 l0.length c0] w fun e w' => e = .returned (.bool r) ∧ Below w.heap.size w w' := by
  unfold tegularef45_Valid.f at h
  split at h
  · rename_i hsz
    obtain rfl := Option.some.inj h
    exact valid_any A0 c0 l0 w hr0 hc0 hsz
  · cases h
end Go.Proofs.Ytidghmgaaenihaa.Q

/-! part PValid -/
namespace Go.Proofs.Ytidghmgaaenihaa.Q
open Go.RowKit
set_option linter.unusedVariables false
set_option linter.unusedSimpArgs false

theorem callR_eq (e : S39) : callR e = properB e := by
  unfold callR properB
  by_cases h1 : e.f1 < 0
  · simp [h1]
  · by_cases h3 : e.f3 < 0
    · simp [h1, h3]
    · by_cases h4 : e.f4 < 0
      · simp [h1, h3, h4]
      · cases h2 : e.f2 <;> cases h5 : e.f5 <;> simp [h1, h3, h4]
        all_goals (cases h40 : (e.f4 == 0) <;> cases h30 : (e.f3 == 0) <;> simp_all)
theorem ansR_eq {e c : S39} (h : e.f1 = c.f1) : ansR e c = answersB e c := by
  unfold ansR answersB
  rw [h, beq_self_eq_true]
  cases h2 : (e.f2 == c.f2) <;> cases h5 : (e.f5 == c.f5) <;> cases h3 : (e.f3 == c.f3) <;> cases h4 : (e.f4 == c.f4) <;> simp_all
theorem findI_step (l : List S39) (kind op : Int) (k : Nat) (hk : k < l.length) : findI l kind op (k + 1) = if 0 ≤ findI l kind op k then findI l kind op k else if isEv kind op (rd_T39 l k) = true then (k : Int) else -1 := by
  have hr : rd_T39 l (k : Int) = l[k] := by rw [rd39_at (by omega) (by omega)]; simp
  unfold findI
  rw [List.take_succ_eq_append_getElem hk, List.findIdx?_append, hr]
  cases h : (l.take k).findIdx? (isEv kind op) with
  | some i => simp
  | none =>
    by_cases hm : isEv kind op l[k] = true
    · simp [List.findIdx?_cons, hm, Nat.min_eq_left (Nat.le_of_lt hk)]
    · simp [List.findIdx?_cons, hm]
theorem findI_zero (l : List S39) (kind op : Int) : findI l kind op 0 = -1 := by simp [findI]
theorem cutR_eq (l : List S39) (a b : Nat) (h : a ≤ b) : cutR l a b = decide (cutsN (l.take a) < cutsN (l.take b)) := by
  have e : l.take b = l.take a ++ (l.take b).drop a := by
    conv => lhs; rw [← List.take_append_drop a (l.take b)]
    rw [List.take_take, Nat.min_eq_left h]
  have e2 : cutsN (l.take b) = cutsN (l.take a) + (((l.take b).drop a).filter (fun e => e.f0 == 3)).length := by
    conv => lhs; rw [e]
    unfold cutsN; rw [List.filter_append, List.length_append]
  unfold cutR
  rw [e2]
  cases hc : ((l.take b).drop a).any (fun e => e.f0 == 3) with
  | true =>
    obtain ⟨x, hx, hp⟩ := List.any_eq_true.1 hc
    have : 0 < (((l.take b).drop a).filter (fun e => e.f0 == 3)).length := List.length_pos_of_mem (List.mem_filter.2 ⟨hx, hp⟩)
    exact (decide_eq_true (by omega)).symm
  | false =>
    have : ((l.take b).drop a).filter (fun e => e.f0 == 3) = [] := by
      rw [List.filter_eq_nil_iff]; intro x hx; have := List.any_eq_false.1 hc x hx; simpa using this
    rw [this]; simp

structure TInv (l : List S39) (k : Nat) (s : List S60 × Int) : Prop where
  era : s.2 = cutsN (l.take k)
  ops : ∀ o ∈ s.1, ∃ i : Nat, i < k ∧ o.f6 = i ∧ (rd_T39 l i).f1 = o.f0 ∧ findI l 1 o.f0 k = i ∧ o.f5 = cutsN (l.take i) ∧ (0 ≤ o.f7 ↔ 0 ≤ findI l 2 o.f0 k)
  all : ∀ id, 0 ≤ findI l 1 id k → ∃ o ∈ s.1, o.f0 = id
  fin : ∀ id, 0 ≤ findI l 2 id k → ∃ o ∈ s.1, o.f0 = id
  seq : ∀ o ∈ s.1, o.f7 = -1 ∨ (o.f6 < o.f7 ∧ o.f7 < k)
  cal : ∀ o ∈ s.1, o.f1 = (rd_T39 l o.f6).f3 ∧ o.f3 = (rd_T39 l o.f6).f2 ∧ o.f4 = (rd_T39 l o.f6).f5 ∧ (o.f3 = true → o.f2 = (rd_T39 l o.f6).f4 ∧ 0 ≤ o.f2)

theorem TInv.zero (l : List S39) : TInv l 0 ([], 0) := ⟨by simp [cutsN], by simp, by simp [findI_zero], by simp [findI_zero], by simp, by simp⟩

theorem event_step (l : List S39) (k : Nat) (hk : k < l.length) {s : List S60 × Int} (I : TInv l k s) : eventR l k = (pstep l k (rd_T39 l k) s).isSome := by
  unfold eventR
  generalize rd_T39 l k = e
  unfold eventE pstep
  by_cases h3 : e.f0 = 3
  · rw [if_pos h3, if_neg (by omega), if_neg (by omega), if_pos h3]
    cases isCut e <;> simp
  · rw [if_neg h3]
    by_cases h1 : e.f0 = 1
    · rw [if_pos h1, if_pos h1, callR_eq]
      cases ha : at? s.1 e.f1 with
      | none =>
        have : ¬ 0 ≤ findI l 1 e.f1 k := fun h => by
          obtain ⟨o, ho, e0⟩ := I.all _ h
          exact at?_none ha o ho e0
        rw [decide_eq_true (by omega), Bool.and_true]
        cases properB e <;> simp
      | some j =>
        obtain ⟨j1, j2, j3⟩ := at?_some ha
        obtain ⟨i, _, _, _, hf, _⟩ := I.ops _ j3
        rw [j2] at hf
        rw [decide_eq_false (by omega), Bool.and_false]; rfl
    · rw [if_neg h1, if_neg h1]
      by_cases h2 : e.f0 = 2
      · rw [if_pos h2, if_pos h2]
        cases ha : at? s.1 e.f1 with
        | none =>
          have : ¬ 0 ≤ findI l 1 e.f1 k := fun h => by
            obtain ⟨o, ho, e0⟩ := I.all _ h
            exact at?_none ha o ho e0
          rw [if_pos (by omega)]; rfl
        | some j =>
          obtain ⟨j1, j2, j3⟩ := at?_some ha
          obtain ⟨i, hi, h6, hc, hf, h5, h7⟩ := I.ops _ j3
          rw [j2] at hf hc h7
          rw [hf, if_neg (by omega)]
          simp only
          by_cases hd : 0 ≤ (opAt s.1 j).f7
          · rw [if_pos (h7.1 hd), if_pos hd]; rfl
          · rw [if_neg (fun h => hd (h7.2 h)), if_neg hd, Int.toNat_natCast, cutR_eq l i k (by omega), I.era, h5]
            have hle : cutsN (l.take i) ≤ cutsN (l.take k) := by
              have e0 : l.take i = (l.take k).take i := by rw [List.take_take, Nat.min_eq_left (by omega)]
              rw [e0]
              unfold cutsN
              exact ((List.take_sublist _ _).filter _).length_le
            by_cases hcut : cutsN (l.take i) = cutsN (l.take k)
            · rw [if_neg (by simp; omega), if_pos (by omega), h6, ansR_eq hc.symm]
              cases answersB e (rd_T39 l i) <;> simp
            · rw [if_pos (by simp; omega), if_neg (by omega)]; rfl
      · rw [if_neg h2, if_neg h2, if_neg h3]; rfl

theorem cutsN_succ {l : List S39} {k : Nat} (hk : k < l.length) : cutsN (l.take (k + 1)) = cutsN (l.take k) + if (rd_T39 l k).f0 = 3 then 1 else 0 := by
  have hr : rd_T39 l (k : Int) = l[k] := by rw [rd39_at (by omega) (by omega)]; simp
  rw [List.take_succ_eq_append_getElem hk, hr]
  unfold cutsN
  rw [List.filter_append, List.length_append]
  by_cases hc : l[k].f0 = 3 <;> simp [List.filter_cons, hc]
theorem findI_ge (l : List S39) (kind op : Int) (k : Nat) : -1 ≤ findI l kind op k := by
  unfold findI
  split
  · omega
  · omega
theorem findI_keep {l : List S39} {kind op : Int} {k : Nat} (hk : k < l.length) {i : Nat} (h : findI l kind op k = i) : findI l kind op (k + 1) = i := by
  rw [findI_step l kind op k hk, h, if_pos (by omega)]
theorem findI_same {l : List S39} {kind op : Int} {k : Nat} (hk : k < l.length) (h : isEv kind op (rd_T39 l k) = false) : findI l kind op (k + 1) = findI l kind op k := by
  rw [findI_step l kind op k hk, h]
  have := findI_ge l kind op k
  split
  · rfl
  · rw [if_neg (by decide)]; omega
theorem mem_setAt {ops : List S60} (hnd : ops.Pairwise (fun a b => a.f0 ≠ b.f0)) {j : Nat} (hj : j < ops.length) {x o : S60} (h : o ∈ ops.set j x) : o = x ∨ (o ∈ ops ∧ o.f0 ≠ (opAt ops j).f0) := by
  obtain ⟨i, hi, rfl⟩ := List.mem_iff_getElem.1 h
  rw [List.length_set] at hi
  rw [List.getElem_set]
  split
  · exact .inl rfl
  · rename_i hne
    refine .inr ⟨List.getElem_mem _, ?_⟩
    rw [opAt_get hj]
    rcases Nat.lt_or_gt_of_ne hne with hlt | hgt
    · exact fun e => List.pairwise_iff_getElem.1 hnd j i hj hi hlt e.symm
    · exact List.pairwise_iff_getElem.1 hnd i j hi hj hgt
theorem set_hit {ops : List S60} {j : Nat} (hj : j < ops.length) (x : S60) : x ∈ ops.set j x := List.mem_iff_getElem.2 ⟨j, by simpa using hj, by simp⟩
theorem set_id {ops : List S60} {j : Nat} (hj : j < ops.length) {x : S60} (hx : x.f0 = (opAt ops j).f0) {o : S60} (ho : o ∈ ops) : ∃ o' ∈ ops.set j x, o'.f0 = o.f0 := by
  obtain ⟨i, hi, rfl⟩ := List.mem_iff_getElem.1 ho
  by_cases hij : i = j
  · subst hij
    exact ⟨x, set_hit hi x, by rw [hx, opAt_get hi]⟩
  · exact ⟨ops[i], List.mem_iff_getElem.2 ⟨i, by simpa using hi, by rw [List.getElem_set]; rw [if_neg (fun h => hij h.symm)]⟩, rfl⟩
theorem tinv_step (l : List S39) (k : Nat) (hk : k < l.length) {s s' : List S60 × Int} (h : pstep l k (rd_T39 l k) s = some s') (I : TInv l k s) (P : PInv k s) : TInv l (k + 1) s' := by
  obtain ⟨ops, era⟩ := s
  obtain ⟨i1, i2, i3, i6, i4, i5⟩ := I
  have hnd := P.nodup
  simp only at i1 i2 i3 i4 i5 i6 hnd
  obtain ⟨e, he⟩ : ∃ e, rd_T39 l (k : Int) = e := ⟨_, rfl⟩
  have hcu := cutsN_succ hk
  have hkeep : ∀ kind op, (e.f0 ≠ kind ∨ e.f1 ≠ op) → findI l kind op (k + 1) = findI l kind op k := fun kind op hne => findI_same hk (by
    rw [he]; unfold isEv; rcases hne with hne | hne <;> simp [hne])
  have hhit : ∀ kind op, e.f0 = kind → e.f1 = op → 0 ≤ findI l kind op (k + 1) := fun kind op h0 h1 => by
    rw [findI_step l kind op k hk, he]
    split
    · assumption
    · rw [if_pos (by simp [isEv, h0, h1])]; omega
  rw [he] at h hcu
  unfold pstep at h
  split at h
  · rename_i h1
    split at h
    · cases h
    · rename_i hn
      split at h
      · rename_i hp
        cases h
        have hf1 : findI l 1 e.f1 k = -1 := by
          have := findI_ge l 1 e.f1 k
          by_cases hq : 0 ≤ findI l 1 e.f1 k
          · obtain ⟨o, ho, e0⟩ := i3 _ hq
            exact absurd e0 (at?_none hn o ho)
          · omega
        have hf1' : findI l 1 e.f1 (k + 1) = (k : Int) := by rw [findI_step l 1 e.f1 k hk, hf1, if_neg (by decide), he, if_pos (by simp [isEv, h1])]
        refine ⟨by rw [hcu, if_neg (by omega)]; exact i1, ?_, ?_, ?_, ?_, ?_⟩
        · intro o ho
          simp only [List.mem_append, List.mem_singleton] at ho
          rcases ho with ho | rfl
          · obtain ⟨i, a1, a2, a3, a4, a5, a6⟩ := i2 o ho
            exact ⟨i, by omega, a2, a3, findI_keep hk a4, a5, by rw [hkeep 2 _ (.inl (by omega))]; exact a6⟩
          · refine ⟨k, by omega, rfl, by rw [he]; rfl, hf1', i1, ?_⟩
            simp only [newOp]
            rw [hkeep 2 _ (.inl (by omega))]
            refine ⟨fun h => absurd h (by decide), fun h => ?_⟩
            obtain ⟨o, ho, e0⟩ := i6 _ h
            exact absurd e0 (at?_none hn o ho)
        · intro id hid
          by_cases hq : id = e.f1
          · exact ⟨newOp e era k, by simp, hq.symm ▸ rfl⟩
          · rw [hkeep 1 id (.inr (fun h => hq h.symm))] at hid
            obtain ⟨o, ho, e0⟩ := i3 id hid
            exact ⟨o, by simp [ho], e0⟩
        · intro id hid
          rw [hkeep 2 id (.inl (by omega))] at hid
          obtain ⟨o, ho, e0⟩ := i6 id hid
          exact ⟨o, by simp [ho], e0⟩
        · intro o ho
          simp only [List.mem_append, List.mem_singleton] at ho
          rcases ho with ho | rfl
          · have := i4 o ho; omega
          · exact .inl rfl
        · intro o ho
          simp only [List.mem_append, List.mem_singleton] at ho
          rcases ho with ho | rfl
          · exact i5 o ho
          · simp only [newOp, he]
            refine ⟨trivial, trivial, trivial, fun _ => ⟨trivial, ?_⟩⟩
            unfold properB at hp
            split at hp
            · cases hp
            · split at hp
              · cases hp
              · split at hp
                · cases hp
                · omega
      · cases h
  · rename_i h1
    split at h
    · rename_i h2
      split at h
      · cases h
      · rename_i j hj
        obtain ⟨j1, j2, j3⟩ := at?_some hj
        split at h
        · cases h
        · rename_i hnd7
          split at h
          · rename_i hera
            split at h
            · rename_i hans
              cases h
              obtain ⟨i, a1, a2, a3, a4, a5, a6⟩ := i2 _ j3
              have hke : ∀ o : S60, o.f0 ≠ (opAt ops j).f0 → findI l 2 o.f0 (k + 1) = findI l 2 o.f0 k := fun o hne => hkeep 2 _ (.inr (fun h => hne (by rw [← h, j2])))
              refine ⟨by rw [hcu, if_neg (by omega)]; exact i1, ?_, ?_, ?_, ?_, ?_⟩
              · intro o ho
                rcases mem_setAt hnd j1 ho with rfl | ⟨ho, hne⟩
                · refine ⟨i, by omega, a2, a3, findI_keep hk a4, a5, ?_⟩
                  simp only [doneOp]
                  refine ⟨fun _ => ?_, fun _ => by omega⟩
                  rw [j2]
                  exact hhit 2 _ h2 rfl
                · obtain ⟨i', b1, b2, b3, b4, b5, b6⟩ := i2 o ho
                  exact ⟨i', by omega, b2, b3, findI_keep hk b4, b5, by rw [hke o hne]; exact b6⟩
              · intro id hid
                rw [hkeep 1 id (.inl (by omega))] at hid
                obtain ⟨o, ho, rfl⟩ := i3 id hid
                exact set_id j1 (x := doneOp (opAt ops j) e k) rfl ho
              · intro id hid
                by_cases hq : id = e.f1
                · exact ⟨_, set_hit j1 _, by rw [hq]; exact j2⟩
                · rw [hkeep 2 id (.inr (fun h => hq h.symm))] at hid
                  obtain ⟨o, ho, rfl⟩ := i6 id hid
                  exact set_id j1 (x := doneOp (opAt ops j) e k) rfl ho
              · intro o ho
                rcases mem_setAt hnd j1 ho with rfl | ⟨ho, hne⟩
                · have a2' : (opAt ops j).f6 = i := a2
                  simp only [doneOp]; omega
                · have := i4 o ho; omega
              · intro o ho
                rcases mem_setAt hnd j1 ho with rfl | ⟨ho, hne⟩
                · obtain ⟨c1, c2, c3, c4⟩ := i5 _ j3
                  simp only [doneOp]
                  refine ⟨c1, c2, c3, fun hw => ?_⟩
                  obtain ⟨c5, c6⟩ := c4 hw
                  unfold answersB at hans
                  rw [← c2, hw, ← c5] at hans
                  simp only [Bool.and_eq_true, beq_iff_eq, Bool.or_eq_true] at hans
                  obtain ⟨⟨⟨⟨_, d2⟩, _⟩, d4⟩, _⟩ := hans
                  rw [d2] at d4
                  simp at d4
                  exact ⟨by rw [d4, c5], by rw [d4]; exact c6⟩
                · exact i5 o ho
            · cases h
          · cases h
    · rename_i h2
      split at h
      · rename_i h3
        split at h
        · cases h
          refine ⟨by rw [hcu, if_pos h3]; simp only; omega, ?_, ?_, ?_, ?_, i5⟩
          · intro o ho
            obtain ⟨i, a1, a2, a3, a4, a5, a6⟩ := i2 o ho
            exact ⟨i, by omega, a2, a3, findI_keep hk a4, a5, by rw [hkeep 2 _ (.inl (by omega))]; exact a6⟩
          · intro id hid
            rw [hkeep 1 id (.inl (by omega))] at hid
            exact i3 id hid
          · intro id hid
            rw [hkeep 2 id (.inl (by omega))] at hid
            exact i6 id hid
          · intro o ho
            have := i4 o ho; omega
        · cases h
      · cases h
theorem tinv (l : List S39) : ∀ k, k ≤ l.length → ∀ s, ptake l k = some s → TInv l k s ∧ (∀ j, j < k → eventR l j = true)
  | 0, _, s, h => by
    cases h
    exact ⟨TInv.zero l, fun j hj => absurd hj (by omega)⟩
  | k + 1, hk, s', h => by
    rw [ptake] at h
    obtain ⟨s, hs, hp⟩ := Option.bind_eq_some_iff.1 h
    obtain ⟨I, hE⟩ := tinv l k (by omega) s hs
    refine ⟨tinv_step l k hk hp I (ptake_inv l k hs), fun j hj => ?_⟩
    rcases Nat.lt_succ_iff_lt_or_eq.1 hj with hj | rfl
    · exact hE j hj
    · rw [event_step l j hk I, hp]; rfl
theorem tinv_all (l : List S39) : ∀ k, k ≤ l.length → (∀ j, j < k → eventR l j = true) → ∃ s, ptake l k = some s
  | 0, _, _ => ⟨_, rfl⟩
  | k + 1, hk, h => by
    obtain ⟨s, hs⟩ := tinv_all l k (by omega) (fun j hj => h j (by omega))
    have hI := (tinv l k (by omega) s hs).1
    have := h k (by omega)
    rw [event_step l k hk hI] at this
    obtain ⟨s', hs'⟩ := Option.isSome_iff_exists.1 this
    exact ⟨s', by rw [ptake, hs]; exact hs'⟩
/-- A list is valid by the document exactly if history.parse takes it. -/
theorem valid_parse (l : List S39) : validR l = (parseP l).isSome := by
  cases h : parseP l with
  | some s => exact validR_yes (tinv l l.length (Nat.le_refl _) s h).2
  | none =>
    cases hv : validR l with
    | false => rfl
    | true =>
      have : ∀ j, j < l.length → eventR l j = true := fun j hj => by
        unfold validR at hv
        exact List.all_eq_true.1 hv j (List.mem_range.2 hj)
      obtain ⟨s, hs⟩ := tinv_all l l.length (Nat.le_refl _) this
      unfold parseP at h
      rw [hs] at h
      cases h
theorem parse_tinv {l : List S39} {s : List S60 × Int} (h : parseP l = some s) : TInv l l.length s := (tinv l l.length (Nat.le_refl _) s h).1
end Go.Proofs.Ytidghmgaaenihaa.Q

/-! part Q33 -/
namespace Go.Proofs.Ytidghmgaaenihaa.Q
open Go.RowKit Go.Proofs.YtidghmgaaenihaaW.PrintWords Go.Proofs.YtidghmgaaenihaaW.PrintLast Go.Proofs.YtidghmgaaenihaaW.PrintMore
attribute [local go_sem] max2_int min2_int max_two min_two max_three min_three max_four min_four
set_option linter.unusedVariables false
set_option linter.unusedSimpArgs false

/-! ### tegularef45_Ops: function 33 -/
mutual
def tegularef45_Ops.l0 : Nat → List (S39) → List (S59) → Int → Int → Option ((List (S59)) × Int)
  | 0, _, _, _, _ => none
  | k + 1, x0, x4, x5, x6 => if x6 < (x0.length : Int) then (if 0 ≤ x6 then (if ((rd_T39 x0 x6).f0) = 3 then (tegularef45_Ops.l0 k x0 x4 (wrap64 (x5 + 1)) (wrap64 (x6 + 1))) else (if ((rd_T39 x0 x6).f0) = 1 then (if x4.length < 2513169434916 then (tegularef45_Ops.l0 k x0 (x4 ++ [(⟨(rd_T39 x0 x6).f1, (rd_T39 x0 x6).f3, (rd_T39 x0 x6).f4, (rd_T39 x0 x6).f2, (rd_T39 x0 x6).f5, x5, x6, (-1)⟩ : S59)]) x5 (wrap64 (x6 + 1))) else (none)) else (tegularef45_Ops.l1 k x0 x4 x5 x6 0 ((rd_T39 x0 x6).f0) ((rd_T39 x0 x6).f1) ((rd_T39 x0 x6).f2) ((rd_T39 x0 x6).f3) ((rd_T39 x0 x6).f4) ((rd_T39 x0 x6).f5)))) else (none)) else (some (x4, 0))
def tegularef45_Ops.l1 : Nat → List (S39) → List (S59) → Int → Int → Int → Int → Int → Bool → Int → Int → Bool → Option ((List (S59)) × Int)
  | 0, _, _, _, _, _, _, _, _, _, _, _ => none
  | k + 1, x0, x4, x5, x6, x8, x179000, x179001, x179002, x179003, x179004, x179005 => if x8 < (x4.length : Int) then (if 0 ≤ x8 then (if ((rd_T59 x4 x8).f0) = x179001 then ((some (x4.set (x8 : Int).toNat (⟨(rd_T59 x4 x8).f0, (rd_T59 x4 x8).f1, x179004, (rd_T59 x4 x8).f3, (rd_T59 x4 x8).f4, (rd_T59 x4 x8).f5, (rd_T59 x4 x8).f6, (rd_T59 x4 x8).f7⟩ : S59) : List (S59))).bind fun y183 => (tegularef45_Ops.l1 k x0 (y183.set (x8 : Int).toNat (⟨(rd_T59 y183 x8).f0, (rd_T59 y183 x8).f1, (rd_T59 y183 x8).f2, (rd_T59 y183 x8).f3, (rd_T59 y183 x8).f4, (rd_T59 y183 x8).f5, (rd_T59 y183 x8).f6, x6⟩ : S59)) x5 x6 (wrap64 (x8 + 1)) x179000 x179001 x179002 x179003 x179004 x179005)) else (tegularef45_Ops.l1 k x0 x4 x5 x6 (wrap64 (x8 + 1)) x179000 x179001 x179002 x179003 x179004 x179005)) else (none)) else (tegularef45_Ops.l0 k x0 x4 x5 (wrap64 (x6 + 1)))
end
def tegularef45_Ops.f (k : Nat) (l0 : List (S39)) : Option ((List (S59)) × Int) := (tegularef45_Valid.f l0).bind fun t176 => (if t176 = true then (tegularef45_Ops.l0 k l0 ([] : List (S59)) 0 0) else (some (([] : List (S59)), 1)))
theorem tegularef45_Ops.mono_l : ∀ k, (∀ y0 y1 y2 y3, LeO (tegularef45_Ops.l0 k y0 y1 y2 y3) (tegularef45_Ops.l0 (k + 1) y0 y1 y2 y3)) ∧ (∀ y0 y1 y2 y3 y4 y5 y6 y7 y8 y9 y10, LeO (tegularef45_Ops.l1 k y0 y1 y2 y3 y4 y5 y6 y7 y8 y9 y10) (tegularef45_Ops.l1 (k + 1) y0 y1 y2 y3 y4 y5 y6 y7 y8 y9 y10))
  | 0 => ⟨fun _ _ _ _ r h => by simp [tegularef45_Ops.l0] at h, fun _ _ _ _ _ _ _ _ _ _ _ r h => by simp [tegularef45_Ops.l1] at h⟩
  | k + 1 => by
    obtain ⟨ih0, ih1⟩ := tegularef45_Ops.mono_l k
    refine ⟨?_, ?_⟩
    · intro y0 y1 y2 y3
      unfold tegularef45_Ops.l0
      repeat' first
      | (with_reducible exact ih0 _ _ _ _)
      | (with_reducible exact ih1 _ _ _ _ _ _ _ _ _ _ _)
      | (with_reducible exact LeO.refl _)
      | (with_reducible exact LeO.none _)
      | (with_reducible refine LeO.ite ?_ ?_)
      | (with_reducible refine LeO.bind ?_ (fun _ => ?_))
      | exact ih0 _ _ _ _
      | exact ih1 _ _ _ _ _ _ _ _ _ _ _
      | exact LeO.none _
      | refine LeO.ite ?_ ?_
      | refine LeO.bind ?_ (fun _ => ?_)
    · intro y0 y1 y2 y3 y4 y5 y6 y7 y8 y9 y10
      unfold tegularef45_Ops.l1
      repeat' first
      | (with_reducible exact ih0 _ _ _ _)
      | (with_reducible exact ih1 _ _ _ _ _ _ _ _ _ _ _)
      | (with_reducible exact LeO.refl _)
      | (with_reducible exact LeO.none _)
      | (with_reducible refine LeO.ite ?_ ?_)
      | (with_reducible refine LeO.bind ?_ (fun _ => ?_))
      | exact ih0 _ _ _ _
      | exact ih1 _ _ _ _ _ _ _ _ _ _ _
      | exact LeO.none _
      | refine LeO.ite ?_ ?_
      | refine LeO.bind ?_ (fun _ => ?_)
theorem tegularef45_Ops.mono : ∀ a0 k, LeO (tegularef45_Ops.f k a0) (tegularef45_Ops.f (k + 1) a0) := by
  intro a0 k
  obtain ⟨ih0, ih1⟩ := tegularef45_Ops.mono_l k
  unfold tegularef45_Ops.f
  repeat' first
      | (with_reducible exact ih0 _ _ _ _)
      | (with_reducible exact ih1 _ _ _ _ _ _ _ _ _ _ _)
      | (with_reducible exact LeO.refl _)
      | (with_reducible exact LeO.none _)
      | (with_reducible refine LeO.ite ?_ ?_)
      | (with_reducible refine LeO.bind ?_ (fun _ => ?_))
      | exact ih0 _ _ _ _
      | exact ih1 _ _ _ _ _ _ _ _ _ _ _
      | exact LeO.none _
      | refine LeO.ite ?_ ?_
      | refine LeO.bind ?_ (fun _ => ?_)
set_option maxHeartbeats 8000000 in
set_option maxRecDepth 100000 in
theorem tegularef45_Ops.calls (k : Nat) (A0 : Option Addr) (c0 : Nat) (l0 : List (S39)) (r1 : List (S59)) (r2 : Int) (w : World) (hr0 : Kd.C k39 w A0 l0.length l0) (hc0 : l0.length ≤ c0) (h : tegularef45_Ops.f k l0 = some (r1, r2)) :
    Calls Try.prog 33 #[.slice A0 l0.length c0] w fun e w' => ∃ v0_ : Value, e = .returned (.tuple #[v0_, .int .i64 r2]) ∧ Kd.R k59 59 w' w.heap.size (fun _ => True) v0_ r1 ∧ Below w.heap.size w w' := by
  have hu39 := Try.underlying39
  have hu59 := Try.underlying59
  have HR0 := Aside0.mk hr0
  have HC0 := Aside0.mk hc0
  clear hr0 hc0
  have HB := Aside0.mk (Below.refl w.heap.size w)
  have H : ((tegularef45_Valid.f l0).bind fun t176 => (if t176 = true then (tegularef45_Ops.l0 k l0 ([] : List (S59)) 0 0) else (some (([] : List (S59)), 1)))) = some (r1, r2) := h
  clear h
  replace H := Option.bind_eq_some_iff.mp H
  obtain ⟨t176, A20, H⟩ := H
  replace H : (if t176 = true then (tegularef45_Ops.l0 k l0 ([] : List (S59)) 0 0) else (some (([] : List (S59)), 1))) = some (r1, r2) := H
  have A2 := Aside0.mk A20
  clear A20
  by_cases c3 : t176 = true
  · subst c3
    have H1 : (tegularef45_Ops.l0 k l0 ([] : List (S59)) 0 0) = some (r1, r2) := by rw [if_pos rfl] at H; exact H
    clear H
    have H := H1
    clear H1
    have H' := Aside0.mk H
    clear H
    go_enter Try.func33, Try.ntmps33
    go_wp2_with (first | (go_at_call 40; (with_reducible refine (tegularef45_Valid.calls _ _ l0 true _ ?side1 ?side2 A2.out).mono ?_); (case side1 => repeat (first | exact HR0.out | (with_reducible refine Kd.C_alloc ?_ _) | (with_reducible refine Kd.C_drewN ?_ _) | (with_reducible refine Kd.C_drew ?_))); (case side2 => exact HC0.out); rintro e w4 ⟨rfl, hb⟩; have n0_ := Aside0.mk (below_step (by repeat (first | (with_reducible first | exact HB.out | apply below_alloc | apply pw_below_drewN | apply below_drew1) | exact HB.out)) hb); clear HB; have HB := n0_; clear n0_; (try clear hb); (try clear hb2); (try clear hk); (try clear hi)))
    repeat (go_quiet (first | (go_at_call 40; (with_reducible refine (tegularef45_Valid.calls _ _ l0 true _ ?side1 ?side2 A2.out).mono ?_); (case side1 => repeat (first | exact HR0.out | (with_reducible refine Kd.C_alloc ?_ _) | (with_reducible refine Kd.C_drewN ?_ _) | (with_reducible refine Kd.C_drew ?_))); (case side2 => exact HC0.out); rintro e w4 ⟨rfl, hb⟩; have n0_ := Aside0.mk (below_step (by repeat (first | (with_reducible first | exact HB.out | apply below_alloc | apply pw_below_drewN | apply below_drew1) | exact HB.out)) hb); clear HB; have HB := n0_; clear n0_; (try clear hb); (try clear hb2); (try clear hk); (try clear hi))); try go_wp2_with (first | (go_at_call 40; (with_reducible refine (tegularef45_Valid.calls _ _ l0 true _ ?side1 ?side2 A2.out).mono ?_); (case side1 => repeat (first | exact HR0.out | (with_reducible refine Kd.C_alloc ?_ _) | (with_reducible refine Kd.C_drewN ?_ _) | (with_reducible refine Kd.C_drew ?_))); (case side2 => exact HC0.out); rintro e w4 ⟨rfl, hb⟩; have n0_ := Aside0.mk (below_step (by repeat (first | (with_reducible first | exact HB.out | apply below_alloc | apply pw_below_drewN | apply below_drew1) | exact HB.out)) hb); clear HB; have HB := n0_; clear n0_; (try clear hb); (try clear hb2); (try clear hk); (try clear hi))))
    go_loopg [4, 5, 6] k (fun kq v4 v5 v6 w' => ∃ (x4_1 : List (S59)) (x5_1 : Int) (x6_1 : Int), v5 = .int .i64 x5_1 ∧ v6 = .int .i64 x6_1 ∧ Aside0 (tegularef45_Ops.l0 kq l0 x4_1 x5_1 x6_1 = some (r1, r2)) ∧ Aside0 (kq ≤ k) ∧ Aside0 (Kd.R k59 59 w' w.heap.size (fun _ => True) v4 x4_1) ∧ Aside0 (Below w.heap.size w w'))
    case atStart => exact ⟨(([] : List (S59))), (0), (0), (by first | rfl | (simp; done) | (simp [*]; done)), (by first | rfl | (simp; done) | (simp [*]; done)), H', ⟨Nat.le_refl _⟩, ⟨by first | exact Kd.R_nil _ _ _ _ _ | exact Kd.N_nil _ _ _ _ _ | exact Kd.V_nil _ _ _ _ _ | exact Kd.Q_nil _ _ _ _ _ | exact Kd.S_nil _ _ _ _ _⟩, ⟨by repeat (first | (with_reducible first | exact HB.out | apply below_alloc | apply pw_below_drewN | apply below_drew1) | exact HB.out)⟩⟩
    case round =>
      clear H'
      try clear p2
      try clear c3
      obtain ⟨x4_1, x5_1, x6_1, rfl, rfl, HA, HK1, HO_4, HB⟩ := hrel
      cases gk with
      | zero => exact absurd HA.out (by simp [tegularef45_Ops.l0])
      | succ k1 =>
        have H := HA.out
        clear HA
        simp only [tegularef45_Ops.l0] at H
        by_cases c5 : x6_1 < (l0.length : Int)
        · rw [if_pos c5] at H
          have c5b0 : decide (x6_1 < (l0.length : Int)) = true := decide_eq_true c5
          clear c5
          by_cases c6 : 0 ≤ x6_1
          · rw [if_pos c6] at H
            have c6b0 : decide (0 ≤ x6_1) = true := decide_eq_true c6
            clear c6
            by_cases c7 : ((rd_T39 l0 x6_1).f0) = 3
            · rw [if_pos c7] at H
              have c7b0 : (((rd_T39 l0 x6_1).f0) == 3) = true := beq_iff_eq.mpr c7
              have c7b1 : (((rd_T39 l0 x6_1).f0) != 3) = false := bne_eq_false_iff_eq.mpr c7
              clear c7
              have H' := Aside0.mk H
              clear H
              have p177 : 0 ≤ (x6_1 : Int) := of_decide_eq_true (by first | (with_reducible assumption) | assumption)
              have q177 : x6_1 < (l0.length : Int) := of_decide_eq_true (by first | (with_reducible assumption) | assumption)
              obtain ⟨ad177, e177, hx177_0, hx177_1, hx177_2, hx177_3, hx177_4, hx177_5⟩ := at_T39 HR0.out x6_1 p177 q177
              cases e177
              replace hx177_0 := (HB.out.cell (World.block_lt_of_cell? w _ hx177_0)).trans hx177_0
              replace hx177_1 := (HB.out.cell (World.block_lt_of_cell? w _ hx177_1)).trans hx177_1
              replace hx177_2 := (HB.out.cell (World.block_lt_of_cell? w _ hx177_2)).trans hx177_2
              replace hx177_3 := (HB.out.cell (World.block_lt_of_cell? w _ hx177_3)).trans hx177_3
              replace hx177_4 := (HB.out.cell (World.block_lt_of_cell? w _ hx177_4)).trans hx177_4
              replace hx177_5 := (HB.out.cell (World.block_lt_of_cell? w _ hx177_5)).trans hx177_5
              replace p177 := eq_true p177
              replace q177 := eq_true q177
              go_wp2_with (first | ((with_reducible refine gate_dst (N := 7) rfl ?_); refine box_event ?hg (N := 7) ?hd (cs := #[.int .i64 0, .int .i64 0, .bool false, .int .i64 0, .int .i64 0, .bool false]) (t := 39) ?hr ?_; (case hd => rfl); (case hg => rfl); (case hr => first | (go_simp; done) | (go_simp; rfl)); intro gb178 hg w8 hbox hb; have n0_ := Aside0.mk (Kd.R_below (by (with_reducible repeat (first | apply Kd.R_alloc | apply Kd.R_drewN | apply Kd.R_drew)); exact HO_4.out) hb); have n1_ := Aside0.mk (below_step (by repeat (first | (with_reducible first | exact HB.out | apply below_alloc | apply pw_below_drewN | apply below_drew1) | exact HB.out)) hb); have n2_ := Aside0.mk (hbox); have n3_ := Aside0.mk ((by rw [hg]; exact (below_size (by repeat (first | (with_reducible first | exact HB.out | apply below_alloc | apply pw_below_drewN | apply below_drew1) | exact HB.out))) : w.heap.size ≤ gb178)); have n4_ := Aside0.mk ((by rw [hg]; exact (below_size (by repeat (first | (with_reducible first | exact HB.out | apply below_alloc | apply pw_below_drewN | apply below_drew1) | exact HB.out))) : w.heap.size ≤ gb178)); clear HO_4; clear HB; have HO_4 := n0_; have HB := n1_; have BK178 := n2_; have GW178 := n3_; have GE178 := n4_; clear n0_ n1_ n2_ n3_ n4_; clear hb hbox hg; have hcz9_0 : w8.cell? ⟨gb178, 0, none⟩ = some (.int .i64 0) := (blk_cell BK178.out 0).trans rfl; have hcz9_1 : w8.cell? ⟨gb178, 1, none⟩ = some (.int .i64 0) := (blk_cell BK178.out 1).trans rfl; have hcz9_2 : w8.cell? ⟨gb178, 2, none⟩ = some (.bool false) := (blk_cell BK178.out 2).trans rfl; have hcz9_3 : w8.cell? ⟨gb178, 3, none⟩ = some (.int .i64 0) := (blk_cell BK178.out 3).trans rfl; have hcz9_4 : w8.cell? ⟨gb178, 4, none⟩ = some (.int .i64 0) := (blk_cell BK178.out 4).trans rfl; have hcz9_5 : w8.cell? ⟨gb178, 5, none⟩ = some (.bool false) := (blk_cell BK178.out 5).trans rfl; have hfz9_0 := blk_frozen BK178.out 0; have hfz9_1 := blk_frozen BK178.out 1; have hfz9_2 := blk_frozen BK178.out 2; have hfz9_3 := blk_frozen BK178.out 3; have hfz9_4 := blk_frozen BK178.out 4; have hfz9_5 := blk_frozen BK178.out 5))
              repeat (go_quiet (first | ((with_reducible refine gate_dst (N := 7) rfl ?_); refine box_event ?hg (N := 7) ?hd (cs := #[.int .i64 0, .int .i64 0, .bool false, .int .i64 0, .int .i64 0, .bool false]) (t := 39) ?hr ?_; (case hd => rfl); (case hg => rfl); (case hr => first | (go_simp; done) | (go_simp; rfl)); intro gb178 hg w8 hbox hb; have n0_ := Aside0.mk (Kd.R_below (by (with_reducible repeat (first | apply Kd.R_alloc | apply Kd.R_drewN | apply Kd.R_drew)); exact HO_4.out) hb); have n1_ := Aside0.mk (below_step (by repeat (first | (with_reducible first | exact HB.out | apply below_alloc | apply pw_below_drewN | apply below_drew1) | exact HB.out)) hb); have n2_ := Aside0.mk (hbox); have n3_ := Aside0.mk ((by rw [hg]; exact (below_size (by repeat (first | (with_reducible first | exact HB.out | apply below_alloc | apply pw_below_drewN | apply below_drew1) | exact HB.out))) : w.heap.size ≤ gb178)); have n4_ := Aside0.mk ((by rw [hg]; exact (below_size (by repeat (first | (with_reducible first | exact HB.out | apply below_alloc | apply pw_below_drewN | apply below_drew1) | exact HB.out))) : w.heap.size ≤ gb178)); clear HO_4; clear HB; have HO_4 := n0_; have HB := n1_; have BK178 := n2_; have GW178 := n3_; have GE178 := n4_; clear n0_ n1_ n2_ n3_ n4_; clear hb hbox hg; have hcz9_0 : w8.cell? ⟨gb178, 0, none⟩ = some (.int .i64 0) := (blk_cell BK178.out 0).trans rfl; have hcz9_1 : w8.cell? ⟨gb178, 1, none⟩ = some (.int .i64 0) := (blk_cell BK178.out 1).trans rfl; have hcz9_2 : w8.cell? ⟨gb178, 2, none⟩ = some (.bool false) := (blk_cell BK178.out 2).trans rfl; have hcz9_3 : w8.cell? ⟨gb178, 3, none⟩ = some (.int .i64 0) := (blk_cell BK178.out 3).trans rfl; have hcz9_4 : w8.cell? ⟨gb178, 4, none⟩ = some (.int .i64 0) := (blk_cell BK178.out 4).trans rfl; have hcz9_5 : w8.cell? ⟨gb178, 5, none⟩ = some (.bool false) := (blk_cell BK178.out 5).trans rfl; have hfz9_0 := blk_frozen BK178.out 0; have hfz9_1 := blk_frozen BK178.out 1; have hfz9_2 := blk_frozen BK178.out 2; have hfz9_3 := blk_frozen BK178.out 3; have hfz9_4 := blk_frozen BK178.out 4; have hfz9_5 := blk_frozen BK178.out 5)); try go_wp2_with (first | ((with_reducible refine gate_dst (N := 7) rfl ?_); refine box_event ?hg (N := 7) ?hd (cs := #[.int .i64 0, .int .i64 0, .bool false, .int .i64 0, .int .i64 0, .bool false]) (t := 39) ?hr ?_; (case hd => rfl); (case hg => rfl); (case hr => first | (go_simp; done) | (go_simp; rfl)); intro gb178 hg w8 hbox hb; have n0_ := Aside0.mk (Kd.R_below (by (with_reducible repeat (first | apply Kd.R_alloc | apply Kd.R_drewN | apply Kd.R_drew)); exact HO_4.out) hb); have n1_ := Aside0.mk (below_step (by repeat (first | (with_reducible first | exact HB.out | apply below_alloc | apply pw_below_drewN | apply below_drew1) | exact HB.out)) hb); have n2_ := Aside0.mk (hbox); have n3_ := Aside0.mk ((by rw [hg]; exact (below_size (by repeat (first | (with_reducible first | exact HB.out | apply below_alloc | apply pw_below_drewN | apply below_drew1) | exact HB.out))) : w.heap.size ≤ gb178)); have n4_ := Aside0.mk ((by rw [hg]; exact (below_size (by repeat (first | (with_reducible first | exact HB.out | apply below_alloc | apply pw_below_drewN | apply below_drew1) | exact HB.out))) : w.heap.size ≤ gb178)); clear HO_4; clear HB; have HO_4 := n0_; have HB := n1_; have BK178 := n2_; have GW178 := n3_; have GE178 := n4_; clear n0_ n1_ n2_ n3_ n4_; clear hb hbox hg; have hcz9_0 : w8.cell? ⟨gb178, 0, none⟩ = some (.int .i64 0) := (blk_cell BK178.out 0).trans rfl; have hcz9_1 : w8.cell? ⟨gb178, 1, none⟩ = some (.int .i64 0) := (blk_cell BK178.out 1).trans rfl; have hcz9_2 : w8.cell? ⟨gb178, 2, none⟩ = some (.bool false) := (blk_cell BK178.out 2).trans rfl; have hcz9_3 : w8.cell? ⟨gb178, 3, none⟩ = some (.int .i64 0) := (blk_cell BK178.out 3).trans rfl; have hcz9_4 : w8.cell? ⟨gb178, 4, none⟩ = some (.int .i64 0) := (blk_cell BK178.out 4).trans rfl; have hcz9_5 : w8.cell? ⟨gb178, 5, none⟩ = some (.bool false) := (blk_cell BK178.out 5).trans rfl; have hfz9_0 := blk_frozen BK178.out 0; have hfz9_1 := blk_frozen BK178.out 1; have hfz9_2 := blk_frozen BK178.out 2; have hfz9_3 := blk_frozen BK178.out 3; have hfz9_4 := blk_frozen BK178.out 4; have hfz9_5 := blk_frozen BK178.out 5)))
              go_roundg k1
              case measure => have := HK1.out; omega
              case rel => exact ⟨(x4_1), (wrap64 (x5_1 + 1)), (wrap64 (x6_1 + 1)), (by first | rfl | (simp; done) | (simp [*]; done)), (by first | rfl | (simp; done) | (simp [*]; done)), H', ⟨by have := HK1.out; omega⟩, ⟨by (with_reducible repeat (first | apply Kd.R_alloc | apply Kd.R_drewN | apply Kd.R_drew)); exact Kd.R_mono (Kd.R_far (p := ⟨gb178, 5, none⟩) (Kd.R_far (p := ⟨gb178, 4, none⟩) (Kd.R_far (p := ⟨gb178, 3, none⟩) (Kd.R_far (p := ⟨gb178, 2, none⟩) (Kd.R_far (p := ⟨gb178, 1, none⟩) (Kd.R_far (p := ⟨gb178, 0, none⟩) (Kd.R_types HO_4.out BK178.out (by decide)) (fun _ hk => hk.2) (.int .i64 ((rd_T39 l0 x6_1).f0))) (fun _ hk => hk.2) (.int .i64 ((rd_T39 l0 x6_1).f1))) (fun _ hk => hk.2) (.bool ((rd_T39 l0 x6_1).f2))) (fun _ hk => hk.2) (.int .i64 ((rd_T39 l0 x6_1).f3))) (fun _ hk => hk.2) (.int .i64 ((rd_T39 l0 x6_1).f4))) (fun _ hk => hk.2) (.bool ((rd_T39 l0 x6_1).f5))) (fun _ hk => trivial)⟩, ⟨by repeat (first | (with_reducible first | exact HB.out | apply below_alloc | apply pw_below_drewN | apply below_drew1 | refine below_set ?_ GE178.out) | exact HB.out)⟩⟩
            · rw [if_neg c7] at H
              have c7b0 : (((rd_T39 l0 x6_1).f0) == 3) = false := beq_eq_false_iff_ne.mpr c7
              have c7b1 : (((rd_T39 l0 x6_1).f0) != 3) = true := bne_iff_ne.mpr c7
              by_cases c10 : ((rd_T39 l0 x6_1).f0) = 1
              · rw [if_pos c10] at H
                have c10b0 : (((rd_T39 l0 x6_1).f0) == 1) = true := beq_iff_eq.mpr c10
                have c10b1 : (((rd_T39 l0 x6_1).f0) != 1) = false := bne_eq_false_iff_eq.mpr c10
                clear c10
                by_cases c11 : x4_1.length < 2513169434916
                · rw [if_pos c11] at H
                  have LMc11 := Aside0.mk c11
                  clear c11
                  obtain ⟨y179, hy179⟩ : ∃ y_ : List (S59), y_ = (x4_1 ++ [(⟨(rd_T39 l0 x6_1).f1, (rd_T39 l0 x6_1).f3, (rd_T39 l0 x6_1).f4, (rd_T39 l0 x6_1).f2, (rd_T39 l0 x6_1).f5, x5_1, x6_1, (-1)⟩ : S59)]) := ⟨_, rfl⟩
                  replace H : (tegularef45_Ops.l0 k1 l0 y179 x5_1 (wrap64 (x6_1 + 1))) = some (r1, r2) := by first | (rw [hy179]; with_reducible exact H) | (have H2_ := (Option.bind_some _ _).symm.trans H; rw [hy179]; with_reducible exact H2_) | (have H2_ := (Option.bind_some _ _).symm.trans H; with_reducible exact H2_) | with_reducible exact H | (rw [hy179]; exact H) | exact H
                  have Ny179 := Aside0.mk hy179
                  clear hy179
                  have H' := Aside0.mk H
                  clear H
                  have p177 : 0 ≤ (x6_1 : Int) := of_decide_eq_true (by first | (with_reducible assumption) | assumption)
                  have q177 : x6_1 < (l0.length : Int) := of_decide_eq_true (by first | (with_reducible assumption) | assumption)
                  obtain ⟨ad177, e177, hx177_0, hx177_1, hx177_2, hx177_3, hx177_4, hx177_5⟩ := at_T39 HR0.out x6_1 p177 q177
                  cases e177
                  replace hx177_0 := (HB.out.cell (World.block_lt_of_cell? w _ hx177_0)).trans hx177_0
                  replace hx177_1 := (HB.out.cell (World.block_lt_of_cell? w _ hx177_1)).trans hx177_1
                  replace hx177_2 := (HB.out.cell (World.block_lt_of_cell? w _ hx177_2)).trans hx177_2
                  replace hx177_3 := (HB.out.cell (World.block_lt_of_cell? w _ hx177_3)).trans hx177_3
                  replace hx177_4 := (HB.out.cell (World.block_lt_of_cell? w _ hx177_4)).trans hx177_4
                  replace hx177_5 := (HB.out.cell (World.block_lt_of_cell? w _ hx177_5)).trans hx177_5
                  replace p177 := eq_true p177
                  replace q177 := eq_true q177
                  go_wp2_with (first | ((with_reducible refine gate_dst (N := 7) rfl ?_); refine box_event ?hg (N := 7) ?hd (cs := #[.int .i64 0, .int .i64 0, .bool false, .int .i64 0, .int .i64 0, .bool false]) (t := 39) ?hr ?_; (case hd => rfl); (case hg => rfl); (case hr => first | (go_simp; done) | (go_simp; rfl)); intro gb178 hg w12 hbox hb; have n0_ := Aside0.mk (Kd.R_below (by (with_reducible repeat (first | apply Kd.R_alloc | apply Kd.R_drewN | apply Kd.R_drew)); exact HO_4.out) hb); have n1_ := Aside0.mk (below_step (by repeat (first | (with_reducible first | exact HB.out | apply below_alloc | apply pw_below_drewN | apply below_drew1) | exact HB.out)) hb); have n2_ := Aside0.mk (hbox); have n3_ := Aside0.mk ((by rw [hg]; exact (below_size (by repeat (first | (with_reducible first | exact HB.out | apply below_alloc | apply pw_below_drewN | apply below_drew1) | exact HB.out))) : w.heap.size ≤ gb178)); have n4_ := Aside0.mk ((by rw [hg]; exact (below_size (by repeat (first | (with_reducible first | exact HB.out | apply below_alloc | apply pw_below_drewN | apply below_drew1) | exact HB.out))) : w.heap.size ≤ gb178)); clear HO_4; clear HB; have HO_4 := n0_; have HB := n1_; have BK178 := n2_; have GW178 := n3_; have GE178 := n4_; clear n0_ n1_ n2_ n3_ n4_; clear hb hbox hg; have hcz13_0 : w12.cell? ⟨gb178, 0, none⟩ = some (.int .i64 0) := (blk_cell BK178.out 0).trans rfl; have hcz13_1 : w12.cell? ⟨gb178, 1, none⟩ = some (.int .i64 0) := (blk_cell BK178.out 1).trans rfl; have hcz13_2 : w12.cell? ⟨gb178, 2, none⟩ = some (.bool false) := (blk_cell BK178.out 2).trans rfl; have hcz13_3 : w12.cell? ⟨gb178, 3, none⟩ = some (.int .i64 0) := (blk_cell BK178.out 3).trans rfl; have hcz13_4 : w12.cell? ⟨gb178, 4, none⟩ = some (.int .i64 0) := (blk_cell BK178.out 4).trans rfl; have hcz13_5 : w12.cell? ⟨gb178, 5, none⟩ = some (.bool false) := (blk_cell BK178.out 5).trans rfl; have hfz13_0 := blk_frozen BK178.out 0; have hfz13_1 := blk_frozen BK178.out 1; have hfz13_2 := blk_frozen BK178.out 2; have hfz13_3 := blk_frozen BK178.out 3; have hfz13_4 := blk_frozen BK178.out 4; have hfz13_5 := blk_frozen BK178.out 5) | ((with_reducible refine gate_builtin (b := .append) (xs := #[.tmp 55, .tmp 69]) rfl ?_); at_builtin; refine Kd.R_append k59 (w0 := w) w.heap.size rfl (.tmp 55) (.tmp 69) 55 59 (.agg #[(.int .i64 0), (.int .i64 0), (.int .i64 0), (.bool false), (.bool false), (.int .i64 0), (.int .i64 0), (.int .i64 0)]) 56 rfl Try.underlying55 info59 rfl (by decide) (by omega) u4 x4_1 (⟨(rd_T39 l0 x6_1).f1, (rd_T39 l0 x6_1).f3, (rd_T39 l0 x6_1).f4, (rd_T39 l0 x6_1).f2, (rd_T39 l0 x6_1).f5, x5_1, x6_1, (-1)⟩ : S59) [.int .i64 ((rd_T39 l0 x6_1).f1), .int .i64 ((rd_T39 l0 x6_1).f3), .int .i64 ((rd_T39 l0 x6_1).f4), .bool ((rd_T39 l0 x6_1).f2), .bool ((rd_T39 l0 x6_1).f5), .int .i64 x5_1, .int .i64 x6_1, .int .i64 (-1)] (fun _ => True) (fun _ => False) rfl (by first | (go_simp; done) | (go_simp; rfl)) ?aP (fun _ hk => hk.elim) ?aF ?aO ?aB ?aS ?aL ?_; (case aP => exact k59_mkM _ _ _ (⟨(rd_T39 l0 x6_1).f1, (rd_T39 l0 x6_1).f3, (rd_T39 l0 x6_1).f4, (rd_T39 l0 x6_1).f2, (rd_T39 l0 x6_1).f5, x5_1, x6_1, (-1)⟩ : S59)); (case aB => exact (by repeat (first | (with_reducible first | exact HB.out | apply below_alloc | apply pw_below_drewN | apply below_drew1 | refine below_set ?_ GE178.out) | exact HB.out))); (case aF => exact (fun _ _ => trivial)); (case aO => exact (by (with_reducible repeat (first | apply Kd.R_alloc | apply Kd.R_drewN | apply Kd.R_drew)); exact Kd.R_mono (Kd.R_far (p := ⟨gb178, 5, none⟩) (Kd.R_far (p := ⟨gb178, 4, none⟩) (Kd.R_far (p := ⟨gb178, 3, none⟩) (Kd.R_far (p := ⟨gb178, 2, none⟩) (Kd.R_far (p := ⟨gb178, 1, none⟩) (Kd.R_far (p := ⟨gb178, 0, none⟩) (Kd.R_types HO_4.out BK178.out (by decide)) (fun _ hk => hk.2) (.int .i64 ((rd_T39 l0 x6_1).f0))) (fun _ hk => hk.2) (.int .i64 ((rd_T39 l0 x6_1).f1))) (fun _ hk => hk.2) (.bool ((rd_T39 l0 x6_1).f2))) (fun _ hk => hk.2) (.int .i64 ((rd_T39 l0 x6_1).f3))) (fun _ hk => hk.2) (.int .i64 ((rd_T39 l0 x6_1).f4))) (fun _ hk => hk.2) (.bool ((rd_T39 l0 x6_1).f5))) (fun _ hk => trivial))); (case aS => exact (below_size (by repeat (first | (with_reducible first | exact HB.out | apply below_alloc | apply pw_below_drewN | apply below_drew1 | refine below_set ?_ GE178.out) | exact HB.out)))); (case aL => have := LMc11.out; omega); intro v180 w14 ho hb hg hat; rw [← Ny179.out] at ho; have n0_ := Aside0.mk (blk_grown (g := gb178) (o := .cells #[.int .i64 ((rd_T39 l0 x6_1).f0), .int .i64 ((rd_T39 l0 x6_1).f1), .bool ((rd_T39 l0 x6_1).f2), .int .i64 ((rd_T39 l0 x6_1).f3), .int .i64 ((rd_T39 l0 x6_1).f4), .bool ((rd_T39 l0 x6_1).f5)] 39 (0, 0)) (by (with_reducible repeat (first | refine blk_drewN ?_ _ | refine blk_drew ?_ | refine blk_alloc ?_ _)); refine blk_put (cs := #[.int .i64 ((rd_T39 l0 x6_1).f0), .int .i64 ((rd_T39 l0 x6_1).f1), .bool ((rd_T39 l0 x6_1).f2), .int .i64 ((rd_T39 l0 x6_1).f3), .int .i64 ((rd_T39 l0 x6_1).f4), .bool false]) ?_ 5 _ rfl; (with_reducible repeat (first | refine blk_drewN ?_ _ | refine blk_drew ?_ | refine blk_alloc ?_ _)); refine blk_put (cs := #[.int .i64 ((rd_T39 l0 x6_1).f0), .int .i64 ((rd_T39 l0 x6_1).f1), .bool ((rd_T39 l0 x6_1).f2), .int .i64 ((rd_T39 l0 x6_1).f3), .int .i64 0, .bool false]) ?_ 4 _ rfl; (with_reducible repeat (first | refine blk_drewN ?_ _ | refine blk_drew ?_ | refine blk_alloc ?_ _)); refine blk_put (cs := #[.int .i64 ((rd_T39 l0 x6_1).f0), .int .i64 ((rd_T39 l0 x6_1).f1), .bool ((rd_T39 l0 x6_1).f2), .int .i64 0, .int .i64 0, .bool false]) ?_ 3 _ rfl; (with_reducible repeat (first | refine blk_drewN ?_ _ | refine blk_drew ?_ | refine blk_alloc ?_ _)); refine blk_put (cs := #[.int .i64 ((rd_T39 l0 x6_1).f0), .int .i64 ((rd_T39 l0 x6_1).f1), .bool false, .int .i64 0, .int .i64 0, .bool false]) ?_ 2 _ rfl; (with_reducible repeat (first | refine blk_drewN ?_ _ | refine blk_drew ?_ | refine blk_alloc ?_ _)); refine blk_put (cs := #[.int .i64 ((rd_T39 l0 x6_1).f0), .int .i64 0, .bool false, .int .i64 0, .int .i64 0, .bool false]) ?_ 1 _ rfl; (with_reducible repeat (first | refine blk_drewN ?_ _ | refine blk_drew ?_ | refine blk_alloc ?_ _)); refine blk_put (cs := #[.int .i64 0, .int .i64 0, .bool false, .int .i64 0, .int .i64 0, .bool false]) ?_ 0 _ rfl; (with_reducible repeat (first | refine blk_drewN ?_ _ | refine blk_drew ?_ | refine blk_alloc ?_ _)); exact BK178.out) hg (Kd.R_ne HO_4.out BK178.out (by decide))); have n1_ := Aside0.mk (hb); have n2_ := Aside0.mk (ho); clear BK178; clear HB; clear HO_4; have BK178 := n0_; have HB := n1_; have HO181 := n2_; clear n0_ n1_ n2_; clear ho hb hg hat))
                  repeat (go_quiet (first | ((with_reducible refine gate_dst (N := 7) rfl ?_); refine box_event ?hg (N := 7) ?hd (cs := #[.int .i64 0, .int .i64 0, .bool false, .int .i64 0, .int .i64 0, .bool false]) (t := 39) ?hr ?_; (case hd => rfl); (case hg => rfl); (case hr => first | (go_simp; done) | (go_simp; rfl)); intro gb178 hg w12 hbox hb; have n0_ := Aside0.mk (Kd.R_below (by (with_reducible repeat (first | apply Kd.R_alloc | apply Kd.R_drewN | apply Kd.R_drew)); exact HO_4.out) hb); have n1_ := Aside0.mk (below_step (by repeat (first | (with_reducible first | exact HB.out | apply below_alloc | apply pw_below_drewN | apply below_drew1) | exact HB.out)) hb); have n2_ := Aside0.mk (hbox); have n3_ := Aside0.mk ((by rw [hg]; exact (below_size (by repeat (first | (with_reducible first | exact HB.out | apply below_alloc | apply pw_below_drewN | apply below_drew1) | exact HB.out))) : w.heap.size ≤ gb178)); have n4_ := Aside0.mk ((by rw [hg]; exact (below_size (by repeat (first | (with_reducible first | exact HB.out | apply below_alloc | apply pw_below_drewN | apply below_drew1) | exact HB.out))) : w.heap.size ≤ gb178)); clear HO_4; clear HB; have HO_4 := n0_; have HB := n1_; have BK178 := n2_; have GW178 := n3_; have GE178 := n4_; clear n0_ n1_ n2_ n3_ n4_; clear hb hbox hg; have hcz13_0 : w12.cell? ⟨gb178, 0, none⟩ = some (.int .i64 0) := (blk_cell BK178.out 0).trans rfl; have hcz13_1 : w12.cell? ⟨gb178, 1, none⟩ = some (.int .i64 0) := (blk_cell BK178.out 1).trans rfl; have hcz13_2 : w12.cell? ⟨gb178, 2, none⟩ = some (.bool false) := (blk_cell BK178.out 2).trans rfl; have hcz13_3 : w12.cell? ⟨gb178, 3, none⟩ = some (.int .i64 0) := (blk_cell BK178.out 3).trans rfl; have hcz13_4 : w12.cell? ⟨gb178, 4, none⟩ = some (.int .i64 0) := (blk_cell BK178.out 4).trans rfl; have hcz13_5 : w12.cell? ⟨gb178, 5, none⟩ = some (.bool false) := (blk_cell BK178.out 5).trans rfl; have hfz13_0 := blk_frozen BK178.out 0; have hfz13_1 := blk_frozen BK178.out 1; have hfz13_2 := blk_frozen BK178.out 2; have hfz13_3 := blk_frozen BK178.out 3; have hfz13_4 := blk_frozen BK178.out 4; have hfz13_5 := blk_frozen BK178.out 5) | ((with_reducible refine gate_builtin (b := .append) (xs := #[.tmp 55, .tmp 69]) rfl ?_); at_builtin; refine Kd.R_append k59 (w0 := w) w.heap.size rfl (.tmp 55) (.tmp 69) 55 59 (.agg #[(.int .i64 0), (.int .i64 0), (.int .i64 0), (.bool false), (.bool false), (.int .i64 0), (.int .i64 0), (.int .i64 0)]) 56 rfl Try.underlying55 info59 rfl (by decide) (by omega) u4 x4_1 (⟨(rd_T39 l0 x6_1).f1, (rd_T39 l0 x6_1).f3, (rd_T39 l0 x6_1).f4, (rd_T39 l0 x6_1).f2, (rd_T39 l0 x6_1).f5, x5_1, x6_1, (-1)⟩ : S59) [.int .i64 ((rd_T39 l0 x6_1).f1), .int .i64 ((rd_T39 l0 x6_1).f3), .int .i64 ((rd_T39 l0 x6_1).f4), .bool ((rd_T39 l0 x6_1).f2), .bool ((rd_T39 l0 x6_1).f5), .int .i64 x5_1, .int .i64 x6_1, .int .i64 (-1)] (fun _ => True) (fun _ => False) rfl (by first | (go_simp; done) | (go_simp; rfl)) ?aP (fun _ hk => hk.elim) ?aF ?aO ?aB ?aS ?aL ?_; (case aP => exact k59_mkM _ _ _ (⟨(rd_T39 l0 x6_1).f1, (rd_T39 l0 x6_1).f3, (rd_T39 l0 x6_1).f4, (rd_T39 l0 x6_1).f2, (rd_T39 l0 x6_1).f5, x5_1, x6_1, (-1)⟩ : S59)); (case aB => exact (by repeat (first | (with_reducible first | exact HB.out | apply below_alloc | apply pw_below_drewN | apply below_drew1 | refine below_set ?_ GE178.out) | exact HB.out))); (case aF => exact (fun _ _ => trivial)); (case aO => exact (by (with_reducible repeat (first | apply Kd.R_alloc | apply Kd.R_drewN | apply Kd.R_drew)); exact Kd.R_mono (Kd.R_far (p := ⟨gb178, 5, none⟩) (Kd.R_far (p := ⟨gb178, 4, none⟩) (Kd.R_far (p := ⟨gb178, 3, none⟩) (Kd.R_far (p := ⟨gb178, 2, none⟩) (Kd.R_far (p := ⟨gb178, 1, none⟩) (Kd.R_far (p := ⟨gb178, 0, none⟩) (Kd.R_types HO_4.out BK178.out (by decide)) (fun _ hk => hk.2) (.int .i64 ((rd_T39 l0 x6_1).f0))) (fun _ hk => hk.2) (.int .i64 ((rd_T39 l0 x6_1).f1))) (fun _ hk => hk.2) (.bool ((rd_T39 l0 x6_1).f2))) (fun _ hk => hk.2) (.int .i64 ((rd_T39 l0 x6_1).f3))) (fun _ hk => hk.2) (.int .i64 ((rd_T39 l0 x6_1).f4))) (fun _ hk => hk.2) (.bool ((rd_T39 l0 x6_1).f5))) (fun _ hk => trivial))); (case aS => exact (below_size (by repeat (first | (with_reducible first | exact HB.out | apply below_alloc | apply pw_below_drewN | apply below_drew1 | refine below_set ?_ GE178.out) | exact HB.out)))); (case aL => have := LMc11.out; omega); intro v180 w14 ho hb hg hat; rw [← Ny179.out] at ho; have n0_ := Aside0.mk (blk_grown (g := gb178) (o := .cells #[.int .i64 ((rd_T39 l0 x6_1).f0), .int .i64 ((rd_T39 l0 x6_1).f1), .bool ((rd_T39 l0 x6_1).f2), .int .i64 ((rd_T39 l0 x6_1).f3), .int .i64 ((rd_T39 l0 x6_1).f4), .bool ((rd_T39 l0 x6_1).f5)] 39 (0, 0)) (by (with_reducible repeat (first | refine blk_drewN ?_ _ | refine blk_drew ?_ | refine blk_alloc ?_ _)); refine blk_put (cs := #[.int .i64 ((rd_T39 l0 x6_1).f0), .int .i64 ((rd_T39 l0 x6_1).f1), .bool ((rd_T39 l0 x6_1).f2), .int .i64 ((rd_T39 l0 x6_1).f3), .int .i64 ((rd_T39 l0 x6_1).f4), .bool false]) ?_ 5 _ rfl; (with_reducible repeat (first | refine blk_drewN ?_ _ | refine blk_drew ?_ | refine blk_alloc ?_ _)); refine blk_put (cs := #[.int .i64 ((rd_T39 l0 x6_1).f0), .int .i64 ((rd_T39 l0 x6_1).f1), .bool ((rd_T39 l0 x6_1).f2), .int .i64 ((rd_T39 l0 x6_1).f3), .int .i64 0, .bool false]) ?_ 4 _ rfl; (with_reducible repeat (first | refine blk_drewN ?_ _ | refine blk_drew ?_ | refine blk_alloc ?_ _)); refine blk_put (cs := #[.int .i64 ((rd_T39 l0 x6_1).f0), .int .i64 ((rd_T39 l0 x6_1).f1), .bool ((rd_T39 l0 x6_1).f2), .int .i64 0, .int .i64 0, .bool false]) ?_ 3 _ rfl; (with_reducible repeat (first | refine blk_drewN ?_ _ | refine blk_drew ?_ | refine blk_alloc ?_ _)); refine blk_put (cs := #[.int .i64 ((rd_T39 l0 x6_1).f0), .int .i64 ((rd_T39 l0 x6_1).f1), .bool false, .int .i64 0, .int .i64 0, .bool false]) ?_ 2 _ rfl; (with_reducible repeat (first | refine blk_drewN ?_ _ | refine blk_drew ?_ | refine blk_alloc ?_ _)); refine blk_put (cs := #[.int .i64 ((rd_T39 l0 x6_1).f0), .int .i64 0, .bool false, .int .i64 0, .int .i64 0, .bool false]) ?_ 1 _ rfl; (with_reducible repeat (first | refine blk_drewN ?_ _ | refine blk_drew ?_ | refine blk_alloc ?_ _)); refine blk_put (cs := #[.int .i64 0, .int .i64 0, .bool false, .int .i64 0, .int .i64 0, .bool false]) ?_ 0 _ rfl; (with_reducible repeat (first | refine blk_drewN ?_ _ | refine blk_drew ?_ | refine blk_alloc ?_ _)); exact BK178.out) hg (Kd.R_ne HO_4.out BK178.out (by decide))); have n1_ := Aside0.mk (hb); have n2_ := Aside0.mk (ho); clear BK178; clear HB; clear HO_4; have BK178 := n0_; have HB := n1_; have HO181 := n2_; clear n0_ n1_ n2_; clear ho hb hg hat)); try go_wp2_with (first | ((with_reducible refine gate_dst (N := 7) rfl ?_); refine box_event ?hg (N := 7) ?hd (cs := #[.int .i64 0, .int .i64 0, .bool false, .int .i64 0, .int .i64 0, .bool false]) (t := 39) ?hr ?_; (case hd => rfl); (case hg => rfl); (case hr => first | (go_simp; done) | (go_simp; rfl)); intro gb178 hg w12 hbox hb; have n0_ := Aside0.mk (Kd.R_below (by (with_reducible repeat (first | apply Kd.R_alloc | apply Kd.R_drewN | apply Kd.R_drew)); exact HO_4.out) hb); have n1_ := Aside0.mk (below_step (by repeat (first | (with_reducible first | exact HB.out | apply below_alloc | apply pw_below_drewN | apply below_drew1) | exact HB.out)) hb); have n2_ := Aside0.mk (hbox); have n3_ := Aside0.mk ((by rw [hg]; exact (below_size (by repeat (first | (with_reducible first | exact HB.out | apply below_alloc | apply pw_below_drewN | apply below_drew1) | exact HB.out))) : w.heap.size ≤ gb178)); have n4_ := Aside0.mk ((by rw [hg]; exact (below_size (by repeat (first | (with_reducible first | exact HB.out | apply below_alloc | apply pw_below_drewN | apply below_drew1) | exact HB.out))) : w.heap.size ≤ gb178)); clear HO_4; clear HB; have HO_4 := n0_; have HB := n1_; have BK178 := n2_; have GW178 := n3_; have GE178 := n4_; clear n0_ n1_ n2_ n3_ n4_; clear hb hbox hg; have hcz13_0 : w12.cell? ⟨gb178, 0, none⟩ = some (.int .i64 0) := (blk_cell BK178.out 0).trans rfl; have hcz13_1 : w12.cell? ⟨gb178, 1, none⟩ = some (.int .i64 0) := (blk_cell BK178.out 1).trans rfl; have hcz13_2 : w12.cell? ⟨gb178, 2, none⟩ = some (.bool false) := (blk_cell BK178.out 2).trans rfl; have hcz13_3 : w12.cell? ⟨gb178, 3, none⟩ = some (.int .i64 0) := (blk_cell BK178.out 3).trans rfl; have hcz13_4 : w12.cell? ⟨gb178, 4, none⟩ = some (.int .i64 0) := (blk_cell BK178.out 4).trans rfl; have hcz13_5 : w12.cell? ⟨gb178, 5, none⟩ = some (.bool false) := (blk_cell BK178.out 5).trans rfl; have hfz13_0 := blk_frozen BK178.out 0; have hfz13_1 := blk_frozen BK178.out 1; have hfz13_2 := blk_frozen BK178.out 2; have hfz13_3 := blk_frozen BK178.out 3; have hfz13_4 := blk_frozen BK178.out 4; have hfz13_5 := blk_frozen BK178.out 5) | ((with_reducible refine gate_builtin (b := .append) (xs := #[.tmp 55, .tmp 69]) rfl ?_); at_builtin; refine Kd.R_append k59 (w0 := w) w.heap.size rfl (.tmp 55) (.tmp 69) 55 59 (.agg #[(.int .i64 0), (.int .i64 0), (.int .i64 0), (.bool false), (.bool false), (.int .i64 0), (.int .i64 0), (.int .i64 0)]) 56 rfl Try.underlying55 info59 rfl (by decide) (by omega) u4 x4_1 (⟨(rd_T39 l0 x6_1).f1, (rd_T39 l0 x6_1).f3, (rd_T39 l0 x6_1).f4, (rd_T39 l0 x6_1).f2, (rd_T39 l0 x6_1).f5, x5_1, x6_1, (-1)⟩ : S59) [.int .i64 ((rd_T39 l0 x6_1).f1), .int .i64 ((rd_T39 l0 x6_1).f3), .int .i64 ((rd_T39 l0 x6_1).f4), .bool ((rd_T39 l0 x6_1).f2), .bool ((rd_T39 l0 x6_1).f5), .int .i64 x5_1, .int .i64 x6_1, .int .i64 (-1)] (fun _ => True) (fun _ => False) rfl (by first | (go_simp; done) | (go_simp; rfl)) ?aP (fun _ hk => hk.elim) ?aF ?aO ?aB ?aS ?aL ?_; (case aP => exact k59_mkM _ _ _ (⟨(rd_T39 l0 x6_1).f1, (rd_T39 l0 x6_1).f3, (rd_T39 l0 x6_1).f4, (rd_T39 l0 x6_1).f2, (rd_T39 l0 x6_1).f5, x5_1, x6_1, (-1)⟩ : S59)); (case aB => exact (by repeat (first | (with_reducible first | exact HB.out | apply below_alloc | apply pw_below_drewN | apply below_drew1 | refine below_set ?_ GE178.out) | exact HB.out))); (case aF => exact (fun _ _ => trivial)); (case aO => exact (by (with_reducible repeat (first | apply Kd.R_alloc | apply Kd.R_drewN | apply Kd.R_drew)); exact Kd.R_mono (Kd.R_far (p := ⟨gb178, 5, none⟩) (Kd.R_far (p := ⟨gb178, 4, none⟩) (Kd.R_far (p := ⟨gb178, 3, none⟩) (Kd.R_far (p := ⟨gb178, 2, none⟩) (Kd.R_far (p := ⟨gb178, 1, none⟩) (Kd.R_far (p := ⟨gb178, 0, none⟩) (Kd.R_types HO_4.out BK178.out (by decide)) (fun _ hk => hk.2) (.int .i64 ((rd_T39 l0 x6_1).f0))) (fun _ hk => hk.2) (.int .i64 ((rd_T39 l0 x6_1).f1))) (fun _ hk => hk.2) (.bool ((rd_T39 l0 x6_1).f2))) (fun _ hk => hk.2) (.int .i64 ((rd_T39 l0 x6_1).f3))) (fun _ hk => hk.2) (.int .i64 ((rd_T39 l0 x6_1).f4))) (fun _ hk => hk.2) (.bool ((rd_T39 l0 x6_1).f5))) (fun _ hk => trivial))); (case aS => exact (below_size (by repeat (first | (with_reducible first | exact HB.out | apply below_alloc | apply pw_below_drewN | apply below_drew1 | refine below_set ?_ GE178.out) | exact HB.out)))); (case aL => have := LMc11.out; omega); intro v180 w14 ho hb hg hat; rw [← Ny179.out] at ho; have n0_ := Aside0.mk (blk_grown (g := gb178) (o := .cells #[.int .i64 ((rd_T39 l0 x6_1).f0), .int .i64 ((rd_T39 l0 x6_1).f1), .bool ((rd_T39 l0 x6_1).f2), .int .i64 ((rd_T39 l0 x6_1).f3), .int .i64 ((rd_T39 l0 x6_1).f4), .bool ((rd_T39 l0 x6_1).f5)] 39 (0, 0)) (by (with_reducible repeat (first | refine blk_drewN ?_ _ | refine blk_drew ?_ | refine blk_alloc ?_ _)); refine blk_put (cs := #[.int .i64 ((rd_T39 l0 x6_1).f0), .int .i64 ((rd_T39 l0 x6_1).f1), .bool ((rd_T39 l0 x6_1).f2), .int .i64 ((rd_T39 l0 x6_1).f3), .int .i64 ((rd_T39 l0 x6_1).f4), .bool false]) ?_ 5 _ rfl; (with_reducible repeat (first | refine blk_drewN ?_ _ | refine blk_drew ?_ | refine blk_alloc ?_ _)); refine blk_put (cs := #[.int .i64 ((rd_T39 l0 x6_1).f0), .int .i64 ((rd_T39 l0 x6_1).f1), .bool ((rd_T39 l0 x6_1).f2), .int .i64 ((rd_T39 l0 x6_1).f3), .int .i64 0, .bool false]) ?_ 4 _ rfl; (with_reducible repeat (first | refine blk_drewN ?_ _ | refine blk_drew ?_ | refine blk_alloc ?_ _)); refine blk_put (cs := #[.int .i64 ((rd_T39 l0 x6_1).f0), .int .i64 ((rd_T39 l0 x6_1).f1), .bool ((rd_T39 l0 x6_1).f2), .int .i64 0, .int .i64 0, .bool false]) ?_ 3 _ rfl; (with_reducible repeat (first | refine blk_drewN ?_ _ | refine blk_drew ?_ | refine blk_alloc ?_ _)); refine blk_put (cs := #[.int .i64 ((rd_T39 l0 x6_1).f0), .int .i64 ((rd_T39 l0 x6_1).f1), .bool false, .int .i64 0, .int .i64 0, .bool false]) ?_ 2 _ rfl; (with_reducible repeat (first | refine blk_drewN ?_ _ | refine blk_drew ?_ | refine blk_alloc ?_ _)); refine blk_put (cs := #[.int .i64 ((rd_T39 l0 x6_1).f0), .int .i64 0, .bool false, .int .i64 0, .int .i64 0, .bool false]) ?_ 1 _ rfl; (with_reducible repeat (first | refine blk_drewN ?_ _ | refine blk_drew ?_ | refine blk_alloc ?_ _)); refine blk_put (cs := #[.int .i64 0, .int .i64 0, .bool false, .int .i64 0, .int .i64 0, .bool false]) ?_ 0 _ rfl; (with_reducible repeat (first | refine blk_drewN ?_ _ | refine blk_drew ?_ | refine blk_alloc ?_ _)); exact BK178.out) hg (Kd.R_ne HO_4.out BK178.out (by decide))); have n1_ := Aside0.mk (hb); have n2_ := Aside0.mk (ho); clear BK178; clear HB; clear HO_4; have BK178 := n0_; have HB := n1_; have HO181 := n2_; clear n0_ n1_ n2_; clear ho hb hg hat)))
                  go_roundg k1
                  case measure => have := HK1.out; omega
                  case rel => exact ⟨(y179), (x5_1), (wrap64 (x6_1 + 1)), (by first | rfl | (simp; done) | (simp [*]; done)), (by first | rfl | (simp; done) | (simp [*]; done)), H', ⟨by have := HK1.out; omega⟩, ⟨by (with_reducible repeat (first | apply Kd.R_alloc | apply Kd.R_drewN | apply Kd.R_drew)); exact HO181.out⟩, ⟨by repeat (first | (with_reducible first | exact HB.out | apply below_alloc | apply pw_below_drewN | apply below_drew1 | refine below_set ?_ GE178.out) | exact HB.out)⟩⟩
                · rw [if_neg c11] at H
                  exact absurd H (by simp)
              · rw [if_neg c10] at H
                have c10b0 : (((rd_T39 l0 x6_1).f0) == 1) = false := beq_eq_false_iff_ne.mpr c10
                have c10b1 : (((rd_T39 l0 x6_1).f0) != 1) = true := bne_iff_ne.mpr c10
                have H' := Aside0.mk H
                clear H
                have p177 : 0 ≤ (x6_1 : Int) := of_decide_eq_true (by first | (with_reducible assumption) | assumption)
                have q177 : x6_1 < (l0.length : Int) := of_decide_eq_true (by first | (with_reducible assumption) | assumption)
                obtain ⟨ad177, e177, hx177_0, hx177_1, hx177_2, hx177_3, hx177_4, hx177_5⟩ := at_T39 HR0.out x6_1 p177 q177
                cases e177
                replace hx177_0 := (HB.out.cell (World.block_lt_of_cell? w _ hx177_0)).trans hx177_0
                replace hx177_1 := (HB.out.cell (World.block_lt_of_cell? w _ hx177_1)).trans hx177_1
                replace hx177_2 := (HB.out.cell (World.block_lt_of_cell? w _ hx177_2)).trans hx177_2
                replace hx177_3 := (HB.out.cell (World.block_lt_of_cell? w _ hx177_3)).trans hx177_3
                replace hx177_4 := (HB.out.cell (World.block_lt_of_cell? w _ hx177_4)).trans hx177_4
                replace hx177_5 := (HB.out.cell (World.block_lt_of_cell? w _ hx177_5)).trans hx177_5
                replace p177 := eq_true p177
                replace q177 := eq_true q177
                go_wp2_with (first | ((with_reducible refine gate_dst (N := 7) rfl ?_); refine box_event ?hg (N := 7) ?hd (cs := #[.int .i64 0, .int .i64 0, .bool false, .int .i64 0, .int .i64 0, .bool false]) (t := 39) ?hr ?_; (case hd => rfl); (case hg => rfl); (case hr => first | (go_simp; done) | (go_simp; rfl)); intro gb178 hg w15 hbox hb; have n0_ := Aside0.mk (Kd.R_below (by (with_reducible repeat (first | apply Kd.R_alloc | apply Kd.R_drewN | apply Kd.R_drew)); exact HO_4.out) hb); have n1_ := Aside0.mk (below_step (by repeat (first | (with_reducible first | exact HB.out | apply below_alloc | apply pw_below_drewN | apply below_drew1) | exact HB.out)) hb); have n2_ := Aside0.mk (hbox); have n3_ := Aside0.mk ((by rw [hg]; exact (below_size (by repeat (first | (with_reducible first | exact HB.out | apply below_alloc | apply pw_below_drewN | apply below_drew1) | exact HB.out))) : w.heap.size ≤ gb178)); have n4_ := Aside0.mk ((by rw [hg]; exact (below_size (by repeat (first | (with_reducible first | exact HB.out | apply below_alloc | apply pw_below_drewN | apply below_drew1) | exact HB.out))) : w.heap.size ≤ gb178)); clear HO_4; clear HB; have HO_4 := n0_; have HB := n1_; have BK178 := n2_; have GW178 := n3_; have GE178 := n4_; clear n0_ n1_ n2_ n3_ n4_; clear hb hbox hg; have hcz16_0 : w15.cell? ⟨gb178, 0, none⟩ = some (.int .i64 0) := (blk_cell BK178.out 0).trans rfl; have hcz16_1 : w15.cell? ⟨gb178, 1, none⟩ = some (.int .i64 0) := (blk_cell BK178.out 1).trans rfl; have hcz16_2 : w15.cell? ⟨gb178, 2, none⟩ = some (.bool false) := (blk_cell BK178.out 2).trans rfl; have hcz16_3 : w15.cell? ⟨gb178, 3, none⟩ = some (.int .i64 0) := (blk_cell BK178.out 3).trans rfl; have hcz16_4 : w15.cell? ⟨gb178, 4, none⟩ = some (.int .i64 0) := (blk_cell BK178.out 4).trans rfl; have hcz16_5 : w15.cell? ⟨gb178, 5, none⟩ = some (.bool false) := (blk_cell BK178.out 5).trans rfl; have hfz16_0 := blk_frozen BK178.out 0; have hfz16_1 := blk_frozen BK178.out 1; have hfz16_2 := blk_frozen BK178.out 2; have hfz16_3 := blk_frozen BK178.out 3; have hfz16_4 := blk_frozen BK178.out 4; have hfz16_5 := blk_frozen BK178.out 5))
                repeat (go_quiet (first | ((with_reducible refine gate_dst (N := 7) rfl ?_); refine box_event ?hg (N := 7) ?hd (cs := #[.int .i64 0, .int .i64 0, .bool false, .int .i64 0, .int .i64 0, .bool false]) (t := 39) ?hr ?_; (case hd => rfl); (case hg => rfl); (case hr => first | (go_simp; done) | (go_simp; rfl)); intro gb178 hg w15 hbox hb; have n0_ := Aside0.mk (Kd.R_below (by (with_reducible repeat (first | apply Kd.R_alloc | apply Kd.R_drewN | apply Kd.R_drew)); exact HO_4.out) hb); have n1_ := Aside0.mk (below_step (by repeat (first | (with_reducible first | exact HB.out | apply below_alloc | apply pw_below_drewN | apply below_drew1) | exact HB.out)) hb); have n2_ := Aside0.mk (hbox); have n3_ := Aside0.mk ((by rw [hg]; exact (below_size (by repeat (first | (with_reducible first | exact HB.out | apply below_alloc | apply pw_below_drewN | apply below_drew1) | exact HB.out))) : w.heap.size ≤ gb178)); have n4_ := Aside0.mk ((by rw [hg]; exact (below_size (by repeat (first | (with_reducible first | exact HB.out | apply below_alloc | apply pw_below_drewN | apply below_drew1) | exact HB.out))) : w.heap.size ≤ gb178)); clear HO_4; clear HB; have HO_4 := n0_; have HB := n1_; have BK178 := n2_; have GW178 := n3_; have GE178 := n4_; clear n0_ n1_ n2_ n3_ n4_; clear hb hbox hg; have hcz16_0 : w15.cell? ⟨gb178, 0, none⟩ = some (.int .i64 0) := (blk_cell BK178.out 0).trans rfl; have hcz16_1 : w15.cell? ⟨gb178, 1, none⟩ = some (.int .i64 0) := (blk_cell BK178.out 1).trans rfl; have hcz16_2 : w15.cell? ⟨gb178, 2, none⟩ = some (.bool false) := (blk_cell BK178.out 2).trans rfl; have hcz16_3 : w15.cell? ⟨gb178, 3, none⟩ = some (.int .i64 0) := (blk_cell BK178.out 3).trans rfl; have hcz16_4 : w15.cell? ⟨gb178, 4, none⟩ = some (.int .i64 0) := (blk_cell BK178.out 4).trans rfl; have hcz16_5 : w15.cell? ⟨gb178, 5, none⟩ = some (.bool false) := (blk_cell BK178.out 5).trans rfl; have hfz16_0 := blk_frozen BK178.out 0; have hfz16_1 := blk_frozen BK178.out 1; have hfz16_2 := blk_frozen BK178.out 2; have hfz16_3 := blk_frozen BK178.out 3; have hfz16_4 := blk_frozen BK178.out 4; have hfz16_5 := blk_frozen BK178.out 5)); try go_wp2_with (first | ((with_reducible refine gate_dst (N := 7) rfl ?_); refine box_event ?hg (N := 7) ?hd (cs := #[.int .i64 0, .int .i64 0, .bool false, .int .i64 0, .int .i64 0, .bool false]) (t := 39) ?hr ?_; (case hd => rfl); (case hg => rfl); (case hr => first | (go_simp; done) | (go_simp; rfl)); intro gb178 hg w15 hbox hb; have n0_ := Aside0.mk (Kd.R_below (by (with_reducible repeat (first | apply Kd.R_alloc | apply Kd.R_drewN | apply Kd.R_drew)); exact HO_4.out) hb); have n1_ := Aside0.mk (below_step (by repeat (first | (with_reducible first | exact HB.out | apply below_alloc | apply pw_below_drewN | apply below_drew1) | exact HB.out)) hb); have n2_ := Aside0.mk (hbox); have n3_ := Aside0.mk ((by rw [hg]; exact (below_size (by repeat (first | (with_reducible first | exact HB.out | apply below_alloc | apply pw_below_drewN | apply below_drew1) | exact HB.out))) : w.heap.size ≤ gb178)); have n4_ := Aside0.mk ((by rw [hg]; exact (below_size (by repeat (first | (with_reducible first | exact HB.out | apply below_alloc | apply pw_below_drewN | apply below_drew1) | exact HB.out))) : w.heap.size ≤ gb178)); clear HO_4; clear HB; have HO_4 := n0_; have HB := n1_; have BK178 := n2_; have GW178 := n3_; have GE178 := n4_; clear n0_ n1_ n2_ n3_ n4_; clear hb hbox hg; have hcz16_0 : w15.cell? ⟨gb178, 0, none⟩ = some (.int .i64 0) := (blk_cell BK178.out 0).trans rfl; have hcz16_1 : w15.cell? ⟨gb178, 1, none⟩ = some (.int .i64 0) := (blk_cell BK178.out 1).trans rfl; have hcz16_2 : w15.cell? ⟨gb178, 2, none⟩ = some (.bool false) := (blk_cell BK178.out 2).trans rfl; have hcz16_3 : w15.cell? ⟨gb178, 3, none⟩ = some (.int .i64 0) := (blk_cell BK178.out 3).trans rfl; have hcz16_4 : w15.cell? ⟨gb178, 4, none⟩ = some (.int .i64 0) := (blk_cell BK178.out 4).trans rfl; have hcz16_5 : w15.cell? ⟨gb178, 5, none⟩ = some (.bool false) := (blk_cell BK178.out 5).trans rfl; have hfz16_0 := blk_frozen BK178.out 0; have hfz16_1 := blk_frozen BK178.out 1; have hfz16_2 := blk_frozen BK178.out 2; have hfz16_3 := blk_frozen BK178.out 3; have hfz16_4 := blk_frozen BK178.out 4; have hfz16_5 := blk_frozen BK178.out 5)))
                go_loopg [8] k1 (fun kq v8 w' => ∃ (x4_2 : List (S59)) (x8_2 : Int), v8 = .int .i64 x8_2 ∧ Aside0 (tegularef45_Ops.l1 kq l0 x4_2 x5_1 x6_1 x8_2 ((rd_T39 l0 x6_1).f0) ((rd_T39 l0 x6_1).f1) ((rd_T39 l0 x6_1).f2) ((rd_T39 l0 x6_1).f3) ((rd_T39 l0 x6_1).f4) ((rd_T39 l0 x6_1).f5) = some (r1, r2)) ∧ Aside0 (kq ≤ k1) ∧ Aside0 (Kd.R k59 59 w' w.heap.size (fun _ => True) u4 x4_2) ∧ Aside0 (w'.heap[gb178]? = some (.cells #[.int .i64 ((rd_T39 l0 x6_1).f0), .int .i64 ((rd_T39 l0 x6_1).f1), .bool ((rd_T39 l0 x6_1).f2), .int .i64 ((rd_T39 l0 x6_1).f3), .int .i64 ((rd_T39 l0 x6_1).f4), .bool ((rd_T39 l0 x6_1).f5)] 39 (0, 0))) ∧ Aside0 (Below w.heap.size w w'))
                case atStart => exact ⟨(x4_1), (0), (by first | rfl | (simp; done) | (simp [*]; done)), H', ⟨Nat.le_refl _⟩, ⟨by (with_reducible repeat (first | apply Kd.R_alloc | apply Kd.R_drewN | apply Kd.R_drew)); exact Kd.R_mono (Kd.R_far (p := ⟨gb178, 5, none⟩) (Kd.R_far (p := ⟨gb178, 4, none⟩) (Kd.R_far (p := ⟨gb178, 3, none⟩) (Kd.R_far (p := ⟨gb178, 2, none⟩) (Kd.R_far (p := ⟨gb178, 1, none⟩) (Kd.R_far (p := ⟨gb178, 0, none⟩) (Kd.R_types HO_4.out BK178.out (by decide)) (fun _ hk => hk.2) (.int .i64 ((rd_T39 l0 x6_1).f0))) (fun _ hk => hk.2) (.int .i64 ((rd_T39 l0 x6_1).f1))) (fun _ hk => hk.2) (.bool ((rd_T39 l0 x6_1).f2))) (fun _ hk => hk.2) (.int .i64 ((rd_T39 l0 x6_1).f3))) (fun _ hk => hk.2) (.int .i64 ((rd_T39 l0 x6_1).f4))) (fun _ hk => hk.2) (.bool ((rd_T39 l0 x6_1).f5))) (fun _ hk => trivial)⟩, ⟨by (with_reducible repeat (first | refine blk_drewN ?_ _ | refine blk_drew ?_ | refine blk_alloc ?_ _)); refine blk_put (cs := #[.int .i64 ((rd_T39 l0 x6_1).f0), .int .i64 ((rd_T39 l0 x6_1).f1), .bool ((rd_T39 l0 x6_1).f2), .int .i64 ((rd_T39 l0 x6_1).f3), .int .i64 ((rd_T39 l0 x6_1).f4), .bool false]) ?_ 5 _ rfl; (with_reducible repeat (first | refine blk_drewN ?_ _ | refine blk_drew ?_ | refine blk_alloc ?_ _)); refine blk_put (cs := #[.int .i64 ((rd_T39 l0 x6_1).f0), .int .i64 ((rd_T39 l0 x6_1).f1), .bool ((rd_T39 l0 x6_1).f2), .int .i64 ((rd_T39 l0 x6_1).f3), .int .i64 0, .bool false]) ?_ 4 _ rfl; (with_reducible repeat (first | refine blk_drewN ?_ _ | refine blk_drew ?_ | refine blk_alloc ?_ _)); refine blk_put (cs := #[.int .i64 ((rd_T39 l0 x6_1).f0), .int .i64 ((rd_T39 l0 x6_1).f1), .bool ((rd_T39 l0 x6_1).f2), .int .i64 0, .int .i64 0, .bool false]) ?_ 3 _ rfl; (with_reducible repeat (first | refine blk_drewN ?_ _ | refine blk_drew ?_ | refine blk_alloc ?_ _)); refine blk_put (cs := #[.int .i64 ((rd_T39 l0 x6_1).f0), .int .i64 ((rd_T39 l0 x6_1).f1), .bool false, .int .i64 0, .int .i64 0, .bool false]) ?_ 2 _ rfl; (with_reducible repeat (first | refine blk_drewN ?_ _ | refine blk_drew ?_ | refine blk_alloc ?_ _)); refine blk_put (cs := #[.int .i64 ((rd_T39 l0 x6_1).f0), .int .i64 0, .bool false, .int .i64 0, .int .i64 0, .bool false]) ?_ 1 _ rfl; (with_reducible repeat (first | refine blk_drewN ?_ _ | refine blk_drew ?_ | refine blk_alloc ?_ _)); refine blk_put (cs := #[.int .i64 0, .int .i64 0, .bool false, .int .i64 0, .int .i64 0, .bool false]) ?_ 0 _ rfl; (with_reducible repeat (first | refine blk_drewN ?_ _ | refine blk_drew ?_ | refine blk_alloc ?_ _)); exact BK178.out⟩, ⟨by repeat (first | (with_reducible first | exact HB.out | apply below_alloc | apply pw_below_drewN | apply below_drew1 | refine below_set ?_ GE178.out) | exact HB.out)⟩⟩
                case round =>
                  clear H'
                  try clear c1
                  try clear p1
                  try clear q1
                  try clear hx1
                  try clear p2
                  try clear c3
                  try clear c5
                  try clear c5b0
                  try clear c6
                  try clear c6b0
                  try clear p6
                  try clear c7
                  try clear c7b0
                  try clear c7b1
                  try clear c10
                  try clear c10b0
                  try clear c10b1
                  try clear c11
                  try clear hcz13_0
                  try clear hcz13_1
                  try clear hcz13_2
                  try clear hcz13_3
                  try clear hcz13_4
                  try clear hcz13_5
                  try clear hcz16_0
                  try clear hcz16_1
                  try clear hcz16_2
                  try clear hcz16_3
                  try clear hcz16_4
                  try clear hcz16_5
                  try clear hcz9_0
                  try clear hcz9_1
                  try clear hcz9_2
                  try clear hcz9_3
                  try clear hcz9_4
                  try clear hcz9_5
                  try clear hfz13_0
                  try clear hfz13_1
                  try clear hfz13_2
                  try clear hfz13_3
                  try clear hfz13_4
                  try clear hfz13_5
                  try clear hfz16_0
                  try clear hfz16_1
                  try clear hfz16_2
                  try clear hfz16_3
                  try clear hfz16_4
                  try clear hfz16_5
                  try clear hfz9_0
                  try clear hfz9_1
                  try clear hfz9_2
                  try clear hfz9_3
                  try clear hfz9_4
                  try clear hfz9_5
                  try clear hx177_0
                  try clear hx177_1
                  try clear hx177_2
                  try clear hx177_3
                  try clear hx177_4
                  try clear hx177_5
                  try clear p177
                  try clear p2
                  try clear q177
                  obtain ⟨x4_2, x8_2, rfl, HA, HK2, HO_4, BK178, HB⟩ := hrel
                  cases gk with
                  | zero => exact absurd HA.out (by simp [tegularef45_Ops.l1])
                  | succ k2 =>
                    have H := HA.out
                    clear HA
                    simp only [tegularef45_Ops.l1] at H
                    by_cases c17 : x8_2 < (x4_2.length : Int)
                    · rw [if_pos c17] at H
                      have c17b0 : decide (x8_2 < (x4_2.length : Int)) = true := decide_eq_true c17
                      clear c17
                      by_cases c18 : 0 ≤ x8_2
                      · rw [if_pos c18] at H
                        have c18b0 : decide (0 ≤ x8_2) = true := decide_eq_true c18
                        clear c18
                        by_cases c19 : ((rd_T59 x4_2 x8_2).f0) = ((rd_T39 l0 x6_1).f1)
                        · rw [if_pos c19] at H
                          have c19b0 : (((rd_T59 x4_2 x8_2).f0) == ((rd_T39 l0 x6_1).f1)) = true := beq_iff_eq.mpr c19
                          have c19b1 : (((rd_T59 x4_2 x8_2).f0) != ((rd_T39 l0 x6_1).f1)) = false := bne_eq_false_iff_eq.mpr c19
                          clear c19
                          obtain ⟨y183, hy183⟩ : ∃ y_ : List (S59), y_ = (x4_2.set (x8_2 : Int).toNat (⟨(rd_T59 x4_2 x8_2).f0, (rd_T59 x4_2 x8_2).f1, ((rd_T39 l0 x6_1).f4), (rd_T59 x4_2 x8_2).f3, (rd_T59 x4_2 x8_2).f4, (rd_T59 x4_2 x8_2).f5, (rd_T59 x4_2 x8_2).f6, (rd_T59 x4_2 x8_2).f7⟩ : S59)) := ⟨_, rfl⟩
                          replace H : (tegularef45_Ops.l1 k2 l0 (y183.set (x8_2 : Int).toNat (⟨(rd_T59 y183 x8_2).f0, (rd_T59 y183 x8_2).f1, (rd_T59 y183 x8_2).f2, (rd_T59 y183 x8_2).f3, (rd_T59 y183 x8_2).f4, (rd_T59 y183 x8_2).f5, (rd_T59 y183 x8_2).f6, x6_1⟩ : S59)) x5_1 x6_1 (wrap64 (x8_2 + 1)) ((rd_T39 l0 x6_1).f0) ((rd_T39 l0 x6_1).f1) ((rd_T39 l0 x6_1).f2) ((rd_T39 l0 x6_1).f3) ((rd_T39 l0 x6_1).f4) ((rd_T39 l0 x6_1).f5)) = some (r1, r2) := by first | (rw [hy183]; with_reducible exact H) | (have H2_ := (Option.bind_some _ _).symm.trans H; rw [hy183]; with_reducible exact H2_) | (have H2_ := (Option.bind_some _ _).symm.trans H; with_reducible exact H2_) | with_reducible exact H | (rw [hy183]; exact H) | exact H
                          have Ny183 := Aside0.mk hy183
                          clear hy183
                          obtain ⟨y184, hy184⟩ : ∃ y_ : List (S59), y_ = (y183.set (x8_2 : Int).toNat (⟨(rd_T59 y183 x8_2).f0, (rd_T59 y183 x8_2).f1, (rd_T59 y183 x8_2).f2, (rd_T59 y183 x8_2).f3, (rd_T59 y183 x8_2).f4, (rd_T59 y183 x8_2).f5, (rd_T59 y183 x8_2).f6, x6_1⟩ : S59)) := ⟨_, rfl⟩
                          replace H : (tegularef45_Ops.l1 k2 l0 y184 x5_1 x6_1 (wrap64 (x8_2 + 1)) ((rd_T39 l0 x6_1).f0) ((rd_T39 l0 x6_1).f1) ((rd_T39 l0 x6_1).f2) ((rd_T39 l0 x6_1).f3) ((rd_T39 l0 x6_1).f4) ((rd_T39 l0 x6_1).f5)) = some (r1, r2) := by first | (rw [hy184]; with_reducible exact H) | (have H2_ := (Option.bind_some _ _).symm.trans H; rw [hy184]; with_reducible exact H2_) | (have H2_ := (Option.bind_some _ _).symm.trans H; with_reducible exact H2_) | with_reducible exact H | (rw [hy184]; exact H) | exact H
                          have Ny184 := Aside0.mk hy184
                          clear hy184
                          have H' := Aside0.mk H
                          clear H
                          obtain ⟨Ao22, co22, eo22⟩ := Kd.R_slice HO_4.out
                          subst eo22
                          have p182 : 0 ≤ (x8_2 : Int) := of_decide_eq_true (by first | (with_reducible assumption) | assumption)
                          have q182 : x8_2 < (x4_2.length : Int) := of_decide_eq_true (by first | (with_reducible assumption) | assumption)
                          obtain ⟨ad182, e182, hx182_0, hx182_1, hx182_2, hx182_3, hx182_4, hx182_5, hx182_6, hx182_7⟩ := at_T59 (Kd.R_reads' HO_4.out).2.2 x8_2 p182 q182
                          cases e182
                          replace p182 := eq_true p182
                          replace q182 := eq_true q182
                          have hcz23_0 : wr.cell? ⟨gb178, 0, none⟩ = some (.int .i64 ((rd_T39 l0 x6_1).f0)) := (blk_cell BK178.out 0).trans rfl
                          have hcz23_1 : wr.cell? ⟨gb178, 1, none⟩ = some (.int .i64 ((rd_T39 l0 x6_1).f1)) := (blk_cell BK178.out 1).trans rfl
                          have hcz23_2 : wr.cell? ⟨gb178, 2, none⟩ = some (.bool ((rd_T39 l0 x6_1).f2)) := (blk_cell BK178.out 2).trans rfl
                          have hcz23_3 : wr.cell? ⟨gb178, 3, none⟩ = some (.int .i64 ((rd_T39 l0 x6_1).f3)) := (blk_cell BK178.out 3).trans rfl
                          have hcz23_4 : wr.cell? ⟨gb178, 4, none⟩ = some (.int .i64 ((rd_T39 l0 x6_1).f4)) := (blk_cell BK178.out 4).trans rfl
                          have hcz23_5 : wr.cell? ⟨gb178, 5, none⟩ = some (.bool ((rd_T39 l0 x6_1).f5)) := (blk_cell BK178.out 5).trans rfl
                          have hfz23_0 := blk_frozen BK178.out 0
                          have hfz23_1 := blk_frozen BK178.out 1
                          have hfz23_2 := blk_frozen BK178.out 2
                          have hfz23_3 := blk_frozen BK178.out 3
                          have hfz23_4 := blk_frozen BK178.out 4
                          have hfz23_5 := blk_frozen BK178.out 5
                          have p20 : 0 ≤ (x8_2 : Int) := of_decide_eq_true (by first | (with_reducible assumption) | assumption)
                          have q20 : (x8_2 : Int) < ((x4_2.length : Int) : Int) := of_decide_eq_true (by first | (with_reducible assumption) | assumption)
                          obtain ⟨go20, co20, eo20, gb20, gl20, cl20, HG20⟩ := Kd.R_form HO_4.out (by omega)
                          (first | cases eo20 | (injection eo20 with ea_ en_ ec_; (first | subst ea_ | (injection ea_ with ea_; subst ea_)); subst ec_; clear en_))
                          have GB20 := Aside0.mk gb20
                          have GG20 := Aside0.mk HG20
                          clear gb20 gl20 HG20
                          (first | simp only [add_plain] at hx182_0 | skip)
                          (first | simp only [add_plain] at hx182_1 | skip)
                          (first | simp only [add_plain] at hx182_2 | skip)
                          (first | simp only [add_plain] at hx182_3 | skip)
                          (first | simp only [add_plain] at hx182_4 | skip)
                          (first | simp only [add_plain] at hx182_5 | skip)
                          (first | simp only [add_plain] at hx182_6 | skip)
                          (first | simp only [add_plain] at hx182_7 | skip)
                          obtain ⟨ce20, hcl20, hM20, hcc20, hfr20⟩ := Kd.R_elem HO_4.out z59 (x8_2 : Int) p20 q20
                          obtain rfl := k59_openM hM20
                          have hx20_0 : wr.cell? ⟨go20, (x8_2 : Int).toNat * 8, none⟩ = some (.int .i64 ((rd_T59 x4_2 x8_2).f0)) := hcc20 0 _ rfl
                          have hx20_1 : wr.cell? ⟨go20, (x8_2 : Int).toNat * 8 + 1, none⟩ = some (.int .i64 ((rd_T59 x4_2 x8_2).f1)) := hcc20 1 _ rfl
                          have hx20_2 : wr.cell? ⟨go20, (x8_2 : Int).toNat * 8 + 2, none⟩ = some (.int .i64 ((rd_T59 x4_2 x8_2).f2)) := hcc20 2 _ rfl
                          have hx20_3 : wr.cell? ⟨go20, (x8_2 : Int).toNat * 8 + 3, none⟩ = some (.bool ((rd_T59 x4_2 x8_2).f3)) := hcc20 3 _ rfl
                          have hx20_4 : wr.cell? ⟨go20, (x8_2 : Int).toNat * 8 + 4, none⟩ = some (.bool ((rd_T59 x4_2 x8_2).f4)) := hcc20 4 _ rfl
                          have hx20_5 : wr.cell? ⟨go20, (x8_2 : Int).toNat * 8 + 5, none⟩ = some (.int .i64 ((rd_T59 x4_2 x8_2).f5)) := hcc20 5 _ rfl
                          have hx20_6 : wr.cell? ⟨go20, (x8_2 : Int).toNat * 8 + 6, none⟩ = some (.int .i64 ((rd_T59 x4_2 x8_2).f6)) := hcc20 6 _ rfl
                          have hx20_7 : wr.cell? ⟨go20, (x8_2 : Int).toNat * 8 + 7, none⟩ = some (.int .i64 ((rd_T59 x4_2 x8_2).f7)) := hcc20 7 _ rfl
                          have hf20_0 : wr.frozen? ⟨go20, (x8_2 : Int).toNat * 8, none⟩ = false := hfr20 0
                          have hf20_1 : wr.frozen? ⟨go20, (x8_2 : Int).toNat * 8 + 1, none⟩ = false := hfr20 1
                          have hf20_2 : wr.frozen? ⟨go20, (x8_2 : Int).toNat * 8 + 2, none⟩ = false := hfr20 2
                          have hf20_3 : wr.frozen? ⟨go20, (x8_2 : Int).toNat * 8 + 3, none⟩ = false := hfr20 3
                          have hf20_4 : wr.frozen? ⟨go20, (x8_2 : Int).toNat * 8 + 4, none⟩ = false := hfr20 4
                          have hf20_5 : wr.frozen? ⟨go20, (x8_2 : Int).toNat * 8 + 5, none⟩ = false := hfr20 5
                          have hf20_6 : wr.frozen? ⟨go20, (x8_2 : Int).toNat * 8 + 6, none⟩ = false := hfr20 6
                          have hf20_7 : wr.frozen? ⟨go20, (x8_2 : Int).toNat * 8 + 7, none⟩ = false := hfr20 7
                          clear hcl20 hcc20 hfr20 hM20
                          replace p20 := eq_true p20
                          replace q20 := eq_true q20
                          have HX24 := Aside0.mk (show Kd.R k59 59 wr w.heap.size (fun _ => True) (.slice (some ⟨go20, 0, none⟩) x4_2.length co22) x4_2 from (by (with_reducible repeat (first | apply Kd.R_alloc | apply Kd.R_drewN | apply Kd.R_drew)); exact HO_4.out))
                          obtain ⟨ce24, hcl24, hM24, hcc24, hfr24⟩ := Kd.R_elem HX24.out z59 (x8_2 : Int) (of_decide_eq_true (by first | (with_reducible assumption) | assumption)) (by have h_ : (x8_2 : Int) < ((x4_2.length : Int) : Int) := of_decide_eq_true (by first | (with_reducible assumption) | assumption); first | exact h_ | (have e_ := (Kd.R_reads' HO_4.out).1; omega) | simpa using h_)
                          obtain rfl := k59_openM hM24
                          have HP24 := Kd.R_seg HX24.out (x8_2 : Int) (of_decide_eq_true (by first | (with_reducible assumption) | assumption)) (by have h_ : (x8_2 : Int) < ((x4_2.length : Int) : Int) := of_decide_eq_true (by first | (with_reducible assumption) | assumption); first | exact h_ | (have e_ := (Kd.R_reads' HO_4.out).1; omega) | simpa using h_) (seg := [.int .i64 ((rd_T39 l0 x6_1).f4)]) (j := 2) hcl24 hcc24 (show 3 ≤ 8 from by decide) (x' := (⟨(rd_T59 x4_2 x8_2).f0, (rd_T59 x4_2 x8_2).f1, ((rd_T39 l0 x6_1).f4), (rd_T59 x4_2 x8_2).f3, (rd_T59 x4_2 x8_2).f4, (rd_T59 x4_2 x8_2).f5, (rd_T59 x4_2 x8_2).f6, (rd_T59 x4_2 x8_2).f7⟩ : S59)) (k59_mkM _ _ _ (⟨(rd_T59 x4_2 x8_2).f0, (rd_T59 x4_2 x8_2).f1, ((rd_T39 l0 x6_1).f4), (rd_T59 x4_2 x8_2).f3, (rd_T59 x4_2 x8_2).f4, (rd_T59 x4_2 x8_2).f5, (rd_T59 x4_2 x8_2).f6, (rd_T59 x4_2 x8_2).f7⟩ : S59) ) (fun _ hk => hk)
                          have hx24_2 := hcc24 2 _ rfl
                          (try simp only [show (k59).sz = 8 from rfl, Nat.mul_one, Nat.add_zero] at hx24_2)
                          have hf24_2 := hfr24 2
                          (try simp only [show (k59).sz = 8 from rfl, Nat.mul_one, Nat.add_zero] at hf24_2)
                          clear hcl24 hcc24 hfr24 hM24
                          go_wp2_with (first | ((with_reducible refine gate_store (t := 3) (p := 46) rfl ?_); (try (rw [drewN_self wr]; generalize hq_ : World.drewN wr _ = wr; have n0_ := Aside0.mk (Kd.R_at hq_ HO_4.out); have n1_ := Aside0.mk (blk_at hq_ BK178.out); have n2_ := Aside0.mk (below_at hq_ HB.out); clear hq_ HO_4 BK178 HB; have HO_4 := n0_; have BK178 := n1_; have HB := n2_; clear n0_ n1_ n2_; (try (have HX24 := Aside0.mk (show Kd.R k59 59 wr w.heap.size (fun _ => True) (.slice (some ⟨go20, 0, none⟩) x4_2.length co22) x4_2 from (by (with_reducible repeat (first | apply Kd.R_alloc | apply Kd.R_drewN | apply Kd.R_drew)); exact HO_4.out)))); (try (obtain ⟨ce24, hcl24, hM24, hcc24, hfr24⟩ := Kd.R_elem HX24.out z59 (x8_2 : Int) (of_decide_eq_true (by first | (with_reducible assumption) | assumption)) (by have h_ : (x8_2 : Int) < ((x4_2.length : Int) : Int) := of_decide_eq_true (by first | (with_reducible assumption) | assumption); first | exact h_ | (have e_ := (Kd.R_reads' HO_4.out).1; omega) | simpa using h_))); (try (obtain rfl := k59_openM hM24)); (try (have HP24 := Kd.R_seg HX24.out (x8_2 : Int) (of_decide_eq_true (by first | (with_reducible assumption) | assumption)) (by have h_ : (x8_2 : Int) < ((x4_2.length : Int) : Int) := of_decide_eq_true (by first | (with_reducible assumption) | assumption); first | exact h_ | (have e_ := (Kd.R_reads' HO_4.out).1; omega) | simpa using h_) (seg := [.int .i64 ((rd_T39 l0 x6_1).f4)]) (j := 2) hcl24 hcc24 (show 3 ≤ 8 from by decide) (x' := (⟨(rd_T59 x4_2 x8_2).f0, (rd_T59 x4_2 x8_2).f1, ((rd_T39 l0 x6_1).f4), (rd_T59 x4_2 x8_2).f3, (rd_T59 x4_2 x8_2).f4, (rd_T59 x4_2 x8_2).f5, (rd_T59 x4_2 x8_2).f6, (rd_T59 x4_2 x8_2).f7⟩ : S59)) (k59_mkM _ _ _ (⟨(rd_T59 x4_2 x8_2).f0, (rd_T59 x4_2 x8_2).f1, ((rd_T39 l0 x6_1).f4), (rd_T59 x4_2 x8_2).f3, (rd_T59 x4_2 x8_2).f4, (rd_T59 x4_2 x8_2).f5, (rd_T59 x4_2 x8_2).f6, (rd_T59 x4_2 x8_2).f7⟩ : S59) ) (fun _ hk => hk))); (try (have hx24_2 := hcc24 2 _ rfl)); (try (try simp only [show (k59).sz = 8 from rfl, Nat.mul_one, Nat.add_zero] at hx24_2)); (try (have hf24_2 := hfr24 2)); (try (try simp only [show (k59).sz = 8 from rfl, Nat.mul_one, Nat.add_zero] at hf24_2)); (try (clear hcl24 hcc24 hfr24 hM24)))); refine store_event (t := 3) (p := 46) (v := ?vo_w25) (w1 := (wr.setCell ⟨go20, (x8_2 : Int).toNat * 8 + 2, none⟩ (.int .i64 ((rd_T39 l0 x6_1).f4)))) ?hg ?ho ?hn ?hr ?_; (case ho => rfl); (case hg => rfl); (case hn => rfl); (case hr => first | (go_simp; done) | (go_simp; rfl)); intro w25 hw; have hg : wr.grownBy w25 (some go20) := (by rw [hw]; exact HP24.2); have hp_ : Kd.R k59 59 w25 w.heap.size (fun _ => True) (.slice (some ⟨go20, 0, none⟩) x4_2.length co22) y183 := (by rw [hw, Ny183.out]; exact HP24.1); clear HP24; have n0_ := Aside0.mk (hp_); have n1_ := Aside0.mk (blk_grown (g := gb178) (o := .cells #[.int .i64 ((rd_T39 l0 x6_1).f0), .int .i64 ((rd_T39 l0 x6_1).f1), .bool ((rd_T39 l0 x6_1).f2), .int .i64 ((rd_T39 l0 x6_1).f3), .int .i64 ((rd_T39 l0 x6_1).f4), .bool ((rd_T39 l0 x6_1).f5)] 39 (0, 0)) (by (with_reducible repeat (first | refine blk_drewN ?_ _ | refine blk_drew ?_ | refine blk_alloc ?_ _)); exact BK178.out) hg (Kd.R_ne HO_4.out BK178.out (by decide))); have n2_ := Aside0.mk ((by rw [hw]; exact below_set (HB.out) GB20.out : Below w.heap.size w w25)); clear HO_4; clear BK178; clear HB; have HO_4 := n0_; have BK178 := n1_; have HB := n2_; clear n0_ n1_ n2_; clear hg hw hp_; have p21 : 0 ≤ (x8_2 : Int) := of_decide_eq_true (by first | (with_reducible assumption) | assumption); have q21 : (x8_2 : Int) < ((x4_2.length : Int) : Int) := of_decide_eq_true (by first | (with_reducible assumption) | assumption); obtain ⟨ce21, hcl21, hM21, hcc21, hfr21⟩ := Kd.R_elem HO_4.out z59 (x8_2 : Int) p21 q21; obtain rfl := k59_openM hM21; have hx21_0 : w25.cell? ⟨go20, (x8_2 : Int).toNat * 8, none⟩ = some (.int .i64 ((rd_T59 y183 x8_2).f0)) := hcc21 0 _ rfl; have hx21_1 : w25.cell? ⟨go20, (x8_2 : Int).toNat * 8 + 1, none⟩ = some (.int .i64 ((rd_T59 y183 x8_2).f1)) := hcc21 1 _ rfl; have hx21_2 : w25.cell? ⟨go20, (x8_2 : Int).toNat * 8 + 2, none⟩ = some (.int .i64 ((rd_T59 y183 x8_2).f2)) := hcc21 2 _ rfl; have hx21_3 : w25.cell? ⟨go20, (x8_2 : Int).toNat * 8 + 3, none⟩ = some (.bool ((rd_T59 y183 x8_2).f3)) := hcc21 3 _ rfl; have hx21_4 : w25.cell? ⟨go20, (x8_2 : Int).toNat * 8 + 4, none⟩ = some (.bool ((rd_T59 y183 x8_2).f4)) := hcc21 4 _ rfl; have hx21_5 : w25.cell? ⟨go20, (x8_2 : Int).toNat * 8 + 5, none⟩ = some (.int .i64 ((rd_T59 y183 x8_2).f5)) := hcc21 5 _ rfl; have hx21_6 : w25.cell? ⟨go20, (x8_2 : Int).toNat * 8 + 6, none⟩ = some (.int .i64 ((rd_T59 y183 x8_2).f6)) := hcc21 6 _ rfl; have hx21_7 : w25.cell? ⟨go20, (x8_2 : Int).toNat * 8 + 7, none⟩ = some (.int .i64 ((rd_T59 y183 x8_2).f7)) := hcc21 7 _ rfl; have hf21_0 : w25.frozen? ⟨go20, (x8_2 : Int).toNat * 8, none⟩ = false := hfr21 0; have hf21_1 : w25.frozen? ⟨go20, (x8_2 : Int).toNat * 8 + 1, none⟩ = false := hfr21 1; have hf21_2 : w25.frozen? ⟨go20, (x8_2 : Int).toNat * 8 + 2, none⟩ = false := hfr21 2; have hf21_3 : w25.frozen? ⟨go20, (x8_2 : Int).toNat * 8 + 3, none⟩ = false := hfr21 3; have hf21_4 : w25.frozen? ⟨go20, (x8_2 : Int).toNat * 8 + 4, none⟩ = false := hfr21 4; have hf21_5 : w25.frozen? ⟨go20, (x8_2 : Int).toNat * 8 + 5, none⟩ = false := hfr21 5; have hf21_6 : w25.frozen? ⟨go20, (x8_2 : Int).toNat * 8 + 6, none⟩ = false := hfr21 6; have hf21_7 : w25.frozen? ⟨go20, (x8_2 : Int).toNat * 8 + 7, none⟩ = false := hfr21 7; clear hcl21 hcc21 hfr21 hM21; replace p21 := eq_true p21; replace q21 := eq_true q21; have HX26 := Aside0.mk (show Kd.R k59 59 w25 w.heap.size (fun _ => True) (.slice (some ⟨go20, 0, none⟩) x4_2.length co22) y183 from (by (with_reducible repeat (first | apply Kd.R_alloc | apply Kd.R_drewN | apply Kd.R_drew)); exact HO_4.out)); obtain ⟨ce26, hcl26, hM26, hcc26, hfr26⟩ := Kd.R_elem HX26.out z59 (x8_2 : Int) (of_decide_eq_true (by first | (with_reducible assumption) | assumption)) (by have h_ : (x8_2 : Int) < ((x4_2.length : Int) : Int) := of_decide_eq_true (by first | (with_reducible assumption) | assumption); first | exact h_ | (have e_ := (Kd.R_reads' HO_4.out).1; omega) | simpa using h_); obtain rfl := k59_openM hM26; have HP26 := Kd.R_seg HX26.out (x8_2 : Int) (of_decide_eq_true (by first | (with_reducible assumption) | assumption)) (by have h_ : (x8_2 : Int) < ((x4_2.length : Int) : Int) := of_decide_eq_true (by first | (with_reducible assumption) | assumption); first | exact h_ | (have e_ := (Kd.R_reads' HO_4.out).1; omega) | simpa using h_) (seg := [.int .i64 x6_1]) (j := 7) hcl26 hcc26 (show 8 ≤ 8 from by decide) (x' := (⟨(rd_T59 y183 x8_2).f0, (rd_T59 y183 x8_2).f1, (rd_T59 y183 x8_2).f2, (rd_T59 y183 x8_2).f3, (rd_T59 y183 x8_2).f4, (rd_T59 y183 x8_2).f5, (rd_T59 y183 x8_2).f6, x6_1⟩ : S59)) (k59_mkM _ _ _ (⟨(rd_T59 y183 x8_2).f0, (rd_T59 y183 x8_2).f1, (rd_T59 y183 x8_2).f2, (rd_T59 y183 x8_2).f3, (rd_T59 y183 x8_2).f4, (rd_T59 y183 x8_2).f5, (rd_T59 y183 x8_2).f6, x6_1⟩ : S59) ) (fun _ hk => hk); have hx26_7 := hcc26 7 _ rfl; (try simp only [show (k59).sz = 8 from rfl, Nat.mul_one, Nat.add_zero] at hx26_7); have hf26_7 := hfr26 7; (try simp only [show (k59).sz = 8 from rfl, Nat.mul_one, Nat.add_zero] at hf26_7); clear hcl26 hcc26 hfr26 hM26) | ((with_reducible refine gate_store (t := 3) (p := 48) rfl ?_); (try (rw [drewN_self w25]; generalize hq_ : World.drewN w25 _ = w25; have n0_ := Aside0.mk (Kd.R_at hq_ HO_4.out); have n1_ := Aside0.mk (blk_at hq_ BK178.out); have n2_ := Aside0.mk (below_at hq_ HB.out); clear hq_ HO_4 BK178 HB; have HO_4 := n0_; have BK178 := n1_; have HB := n2_; clear n0_ n1_ n2_; (try (have HX26 := Aside0.mk (show Kd.R k59 59 w25 w.heap.size (fun _ => True) (.slice (some ⟨go20, 0, none⟩) x4_2.length co22) y183 from (by (with_reducible repeat (first | apply Kd.R_alloc | apply Kd.R_drewN | apply Kd.R_drew)); exact HO_4.out)))); (try (obtain ⟨ce26, hcl26, hM26, hcc26, hfr26⟩ := Kd.R_elem HX26.out z59 (x8_2 : Int) (of_decide_eq_true (by first | (with_reducible assumption) | assumption)) (by have h_ : (x8_2 : Int) < ((x4_2.length : Int) : Int) := of_decide_eq_true (by first | (with_reducible assumption) | assumption); first | exact h_ | (have e_ := (Kd.R_reads' HO_4.out).1; omega) | simpa using h_))); (try (obtain rfl := k59_openM hM26)); (try (have HP26 := Kd.R_seg HX26.out (x8_2 : Int) (of_decide_eq_true (by first | (with_reducible assumption) | assumption)) (by have h_ : (x8_2 : Int) < ((x4_2.length : Int) : Int) := of_decide_eq_true (by first | (with_reducible assumption) | assumption); first | exact h_ | (have e_ := (Kd.R_reads' HO_4.out).1; omega) | simpa using h_) (seg := [.int .i64 x6_1]) (j := 7) hcl26 hcc26 (show 8 ≤ 8 from by decide) (x' := (⟨(rd_T59 y183 x8_2).f0, (rd_T59 y183 x8_2).f1, (rd_T59 y183 x8_2).f2, (rd_T59 y183 x8_2).f3, (rd_T59 y183 x8_2).f4, (rd_T59 y183 x8_2).f5, (rd_T59 y183 x8_2).f6, x6_1⟩ : S59)) (k59_mkM _ _ _ (⟨(rd_T59 y183 x8_2).f0, (rd_T59 y183 x8_2).f1, (rd_T59 y183 x8_2).f2, (rd_T59 y183 x8_2).f3, (rd_T59 y183 x8_2).f4, (rd_T59 y183 x8_2).f5, (rd_T59 y183 x8_2).f6, x6_1⟩ : S59) ) (fun _ hk => hk))); (try (have hx26_7 := hcc26 7 _ rfl)); (try (try simp only [show (k59).sz = 8 from rfl, Nat.mul_one, Nat.add_zero] at hx26_7)); (try (have hf26_7 := hfr26 7)); (try (try simp only [show (k59).sz = 8 from rfl, Nat.mul_one, Nat.add_zero] at hf26_7)); (try (clear hcl26 hcc26 hfr26 hM26)))); refine store_event (t := 3) (p := 48) (v := ?vo_w27) (w1 := (w25.setCell ⟨go20, (x8_2 : Int).toNat * 8 + 7, none⟩ (.int .i64 x6_1))) ?hg ?ho ?hn ?hr ?_; (case ho => rfl); (case hg => rfl); (case hn => rfl); (case hr => first | (go_simp; done) | (go_simp; rfl)); intro w27 hw; have hg : w25.grownBy w27 (some go20) := (by rw [hw]; exact HP26.2); have hp_ : Kd.R k59 59 w27 w.heap.size (fun _ => True) (.slice (some ⟨go20, 0, none⟩) x4_2.length co22) y184 := (by rw [hw, Ny184.out]; exact HP26.1); clear HP26; have n0_ := Aside0.mk (hp_); have n1_ := Aside0.mk (blk_grown (g := gb178) (o := .cells #[.int .i64 ((rd_T39 l0 x6_1).f0), .int .i64 ((rd_T39 l0 x6_1).f1), .bool ((rd_T39 l0 x6_1).f2), .int .i64 ((rd_T39 l0 x6_1).f3), .int .i64 ((rd_T39 l0 x6_1).f4), .bool ((rd_T39 l0 x6_1).f5)] 39 (0, 0)) (by (with_reducible repeat (first | refine blk_drewN ?_ _ | refine blk_drew ?_ | refine blk_alloc ?_ _)); exact BK178.out) hg (Kd.R_ne HO_4.out BK178.out (by decide))); have n2_ := Aside0.mk ((by rw [hw]; exact below_set (HB.out) GB20.out : Below w.heap.size w w27)); clear HO_4; clear BK178; clear HB; have HO_4 := n0_; have BK178 := n1_; have HB := n2_; clear n0_ n1_ n2_; clear hg hw hp_))
                          repeat (go_quiet (first | ((with_reducible refine gate_store (t := 3) (p := 46) rfl ?_); (try (rw [drewN_self wr]; generalize hq_ : World.drewN wr _ = wr; have n0_ := Aside0.mk (Kd.R_at hq_ HO_4.out); have n1_ := Aside0.mk (blk_at hq_ BK178.out); have n2_ := Aside0.mk (below_at hq_ HB.out); clear hq_ HO_4 BK178 HB; have HO_4 := n0_; have BK178 := n1_; have HB := n2_; clear n0_ n1_ n2_; (try (have HX24 := Aside0.mk (show Kd.R k59 59 wr w.heap.size (fun _ => True) (.slice (some ⟨go20, 0, none⟩) x4_2.length co22) x4_2 from (by (with_reducible repeat (first | apply Kd.R_alloc | apply Kd.R_drewN | apply Kd.R_drew)); exact HO_4.out)))); (try (obtain ⟨ce24, hcl24, hM24, hcc24, hfr24⟩ := Kd.R_elem HX24.out z59 (x8_2 : Int) (of_decide_eq_true (by first | (with_reducible assumption) | assumption)) (by have h_ : (x8_2 : Int) < ((x4_2.length : Int) : Int) := of_decide_eq_true (by first | (with_reducible assumption) | assumption); first | exact h_ | (have e_ := (Kd.R_reads' HO_4.out).1; omega) | simpa using h_))); (try (obtain rfl := k59_openM hM24)); (try (have HP24 := Kd.R_seg HX24.out (x8_2 : Int) (of_decide_eq_true (by first | (with_reducible assumption) | assumption)) (by have h_ : (x8_2 : Int) < ((x4_2.length : Int) : Int) := of_decide_eq_true (by first | (with_reducible assumption) | assumption); first | exact h_ | (have e_ := (Kd.R_reads' HO_4.out).1; omega) | simpa using h_) (seg := [.int .i64 ((rd_T39 l0 x6_1).f4)]) (j := 2) hcl24 hcc24 (show 3 ≤ 8 from by decide) (x' := (⟨(rd_T59 x4_2 x8_2).f0, (rd_T59 x4_2 x8_2).f1, ((rd_T39 l0 x6_1).f4), (rd_T59 x4_2 x8_2).f3, (rd_T59 x4_2 x8_2).f4, (rd_T59 x4_2 x8_2).f5, (rd_T59 x4_2 x8_2).f6, (rd_T59 x4_2 x8_2).f7⟩ : S59)) (k59_mkM _ _ _ (⟨(rd_T59 x4_2 x8_2).f0, (rd_T59 x4_2 x8_2).f1, ((rd_T39 l0 x6_1).f4), (rd_T59 x4_2 x8_2).f3, (rd_T59 x4_2 x8_2).f4, (rd_T59 x4_2 x8_2).f5, (rd_T59 x4_2 x8_2).f6, (rd_T59 x4_2 x8_2).f7⟩ : S59) ) (fun _ hk => hk))); (try (have hx24_2 := hcc24 2 _ rfl)); (try (try simp only [show (k59).sz = 8 from rfl, Nat.mul_one, Nat.add_zero] at hx24_2)); (try (have hf24_2 := hfr24 2)); (try (try simp only [show (k59).sz = 8 from rfl, Nat.mul_one, Nat.add_zero] at hf24_2)); (try (clear hcl24 hcc24 hfr24 hM24)))); refine store_event (t := 3) (p := 46) (v := ?vo_w25) (w1 := (wr.setCell ⟨go20, (x8_2 : Int).toNat * 8 + 2, none⟩ (.int .i64 ((rd_T39 l0 x6_1).f4)))) ?hg ?ho ?hn ?hr ?_; (case ho => rfl); (case hg => rfl); (case hn => rfl); (case hr => first | (go_simp; done) | (go_simp; rfl)); intro w25 hw; have hg : wr.grownBy w25 (some go20) := (by rw [hw]; exact HP24.2); have hp_ : Kd.R k59 59 w25 w.heap.size (fun _ => True) (.slice (some ⟨go20, 0, none⟩) x4_2.length co22) y183 := (by rw [hw, Ny183.out]; exact HP24.1); clear HP24; have n0_ := Aside0.mk (hp_); have n1_ := Aside0.mk (blk_grown (g := gb178) (o := .cells #[.int .i64 ((rd_T39 l0 x6_1).f0), .int .i64 ((rd_T39 l0 x6_1).f1), .bool ((rd_T39 l0 x6_1).f2), .int .i64 ((rd_T39 l0 x6_1).f3), .int .i64 ((rd_T39 l0 x6_1).f4), .bool ((rd_T39 l0 x6_1).f5)] 39 (0, 0)) (by (with_reducible repeat (first | refine blk_drewN ?_ _ | refine blk_drew ?_ | refine blk_alloc ?_ _)); exact BK178.out) hg (Kd.R_ne HO_4.out BK178.out (by decide))); have n2_ := Aside0.mk ((by rw [hw]; exact below_set (HB.out) GB20.out : Below w.heap.size w w25)); clear HO_4; clear BK178; clear HB; have HO_4 := n0_; have BK178 := n1_; have HB := n2_; clear n0_ n1_ n2_; clear hg hw hp_; have p21 : 0 ≤ (x8_2 : Int) := of_decide_eq_true (by first | (with_reducible assumption) | assumption); have q21 : (x8_2 : Int) < ((x4_2.length : Int) : Int) := of_decide_eq_true (by first | (with_reducible assumption) | assumption); obtain ⟨ce21, hcl21, hM21, hcc21, hfr21⟩ := Kd.R_elem HO_4.out z59 (x8_2 : Int) p21 q21; obtain rfl := k59_openM hM21; have hx21_0 : w25.cell? ⟨go20, (x8_2 : Int).toNat * 8, none⟩ = some (.int .i64 ((rd_T59 y183 x8_2).f0)) := hcc21 0 _ rfl; have hx21_1 : w25.cell? ⟨go20, (x8_2 : Int).toNat * 8 + 1, none⟩ = some (.int .i64 ((rd_T59 y183 x8_2).f1)) := hcc21 1 _ rfl; have hx21_2 : w25.cell? ⟨go20, (x8_2 : Int).toNat * 8 + 2, none⟩ = some (.int .i64 ((rd_T59 y183 x8_2).f2)) := hcc21 2 _ rfl; have hx21_3 : w25.cell? ⟨go20, (x8_2 : Int).toNat * 8 + 3, none⟩ = some (.bool ((rd_T59 y183 x8_2).f3)) := hcc21 3 _ rfl; have hx21_4 : w25.cell? ⟨go20, (x8_2 : Int).toNat * 8 + 4, none⟩ = some (.bool ((rd_T59 y183 x8_2).f4)) := hcc21 4 _ rfl; have hx21_5 : w25.cell? ⟨go20, (x8_2 : Int).toNat * 8 + 5, none⟩ = some (.int .i64 ((rd_T59 y183 x8_2).f5)) := hcc21 5 _ rfl; have hx21_6 : w25.cell? ⟨go20, (x8_2 : Int).toNat * 8 + 6, none⟩ = some (.int .i64 ((rd_T59 y183 x8_2).f6)) := hcc21 6 _ rfl; have hx21_7 : w25.cell? ⟨go20, (x8_2 : Int).toNat * 8 + 7, none⟩ = some (.int .i64 ((rd_T59 y183 x8_2).f7)) := hcc21 7 _ rfl; have hf21_0 : w25.frozen? ⟨go20, (x8_2 : Int).toNat * 8, none⟩ = false := hfr21 0; have hf21_1 : w25.frozen? ⟨go20, (x8_2 : Int).toNat * 8 + 1, none⟩ = false := hfr21 1; have hf21_2 : w25.frozen? ⟨go20, (x8_2 : Int).toNat * 8 + 2, none⟩ = false := hfr21 2; have hf21_3 : w25.frozen? ⟨go20, (x8_2 : Int).toNat * 8 + 3, none⟩ = false := hfr21 3; have hf21_4 : w25.frozen? ⟨go20, (x8_2 : Int).toNat * 8 + 4, none⟩ = false := hfr21 4; have hf21_5 : w25.frozen? ⟨go20, (x8_2 : Int).toNat * 8 + 5, none⟩ = false := hfr21 5; have hf21_6 : w25.frozen? ⟨go20, (x8_2 : Int).toNat * 8 + 6, none⟩ = false := hfr21 6; have hf21_7 : w25.frozen? ⟨go20, (x8_2 : Int).toNat * 8 + 7, none⟩ = false := hfr21 7; clear hcl21 hcc21 hfr21 hM21; replace p21 := eq_true p21; replace q21 := eq_true q21; have HX26 := Aside0.mk (show Kd.R k59 59 w25 w.heap.size (fun _ => True) (.slice (some ⟨go20, 0, none⟩) x4_2.length co22) y183 from (by (with_reducible repeat (first | apply Kd.R_alloc | apply Kd.R_drewN | apply Kd.R_drew)); exact HO_4.out)); obtain ⟨ce26, hcl26, hM26, hcc26, hfr26⟩ := Kd.R_elem HX26.out z59 (x8_2 : Int) (of_decide_eq_true (by first | (with_reducible assumption) | assumption)) (by have h_ : (x8_2 : Int) < ((x4_2.length : Int) : Int) := of_decide_eq_true (by first | (with_reducible assumption) | assumption); first | exact h_ | (have e_ := (Kd.R_reads' HO_4.out).1; omega) | simpa using h_); obtain rfl := k59_openM hM26; have HP26 := Kd.R_seg HX26.out (x8_2 : Int) (of_decide_eq_true (by first | (with_reducible assumption) | assumption)) (by have h_ : (x8_2 : Int) < ((x4_2.length : Int) : Int) := of_decide_eq_true (by first | (with_reducible assumption) | assumption); first | exact h_ | (have e_ := (Kd.R_reads' HO_4.out).1; omega) | simpa using h_) (seg := [.int .i64 x6_1]) (j := 7) hcl26 hcc26 (show 8 ≤ 8 from by decide) (x' := (⟨(rd_T59 y183 x8_2).f0, (rd_T59 y183 x8_2).f1, (rd_T59 y183 x8_2).f2, (rd_T59 y183 x8_2).f3, (rd_T59 y183 x8_2).f4, (rd_T59 y183 x8_2).f5, (rd_T59 y183 x8_2).f6, x6_1⟩ : S59)) (k59_mkM _ _ _ (⟨(rd_T59 y183 x8_2).f0, (rd_T59 y183 x8_2).f1, (rd_T59 y183 x8_2).f2, (rd_T59 y183 x8_2).f3, (rd_T59 y183 x8_2).f4, (rd_T59 y183 x8_2).f5, (rd_T59 y183 x8_2).f6, x6_1⟩ : S59) ) (fun _ hk => hk); have hx26_7 := hcc26 7 _ rfl; (try simp only [show (k59).sz = 8 from rfl, Nat.mul_one, Nat.add_zero] at hx26_7); have hf26_7 := hfr26 7; (try simp only [show (k59).sz = 8 from rfl, Nat.mul_one, Nat.add_zero] at hf26_7); clear hcl26 hcc26 hfr26 hM26) | ((with_reducible refine gate_store (t := 3) (p := 48) rfl ?_); (try (rw [drewN_self w25]; generalize hq_ : World.drewN w25 _ = w25; have n0_ := Aside0.mk (Kd.R_at hq_ HO_4.out); have n1_ := Aside0.mk (blk_at hq_ BK178.out); have n2_ := Aside0.mk (below_at hq_ HB.out); clear hq_ HO_4 BK178 HB; have HO_4 := n0_; have BK178 := n1_; have HB := n2_; clear n0_ n1_ n2_; (try (have HX26 := Aside0.mk (show Kd.R k59 59 w25 w.heap.size (fun _ => True) (.slice (some ⟨go20, 0, none⟩) x4_2.length co22) y183 from (by (with_reducible repeat (first | apply Kd.R_alloc | apply Kd.R_drewN | apply Kd.R_drew)); exact HO_4.out)))); (try (obtain ⟨ce26, hcl26, hM26, hcc26, hfr26⟩ := Kd.R_elem HX26.out z59 (x8_2 : Int) (of_decide_eq_true (by first | (with_reducible assumption) | assumption)) (by have h_ : (x8_2 : Int) < ((x4_2.length : Int) : Int) := of_decide_eq_true (by first | (with_reducible assumption) | assumption); first | exact h_ | (have e_ := (Kd.R_reads' HO_4.out).1; omega) | simpa using h_))); (try (obtain rfl := k59_openM hM26)); (try (have HP26 := Kd.R_seg HX26.out (x8_2 : Int) (of_decide_eq_true (by first | (with_reducible assumption) | assumption)) (by have h_ : (x8_2 : Int) < ((x4_2.length : Int) : Int) := of_decide_eq_true (by first | (with_reducible assumption) | assumption); first | exact h_ | (have e_ := (Kd.R_reads' HO_4.out).1; omega) | simpa using h_) (seg := [.int .i64 x6_1]) (j := 7) hcl26 hcc26 (show 8 ≤ 8 from by decide) (x' := (⟨(rd_T59 y183 x8_2).f0, (rd_T59 y183 x8_2).f1, (rd_T59 y183 x8_2).f2, (rd_T59 y183 x8_2).f3, (rd_T59 y183 x8_2).f4, (rd_T59 y183 x8_2).f5, (rd_T59 y183 x8_2).f6, x6_1⟩ : S59)) (k59_mkM _ _ _ (⟨(rd_T59 y183 x8_2).f0, (rd_T59 y183 x8_2).f1, (rd_T59 y183 x8_2).f2, (rd_T59 y183 x8_2).f3, (rd_T59 y183 x8_2).f4, (rd_T59 y183 x8_2).f5, (rd_T59 y183 x8_2).f6, x6_1⟩ : S59) ) (fun _ hk => hk))); (try (have hx26_7 := hcc26 7 _ rfl)); (try (try simp only [show (k59).sz = 8 from rfl, Nat.mul_one, Nat.add_zero] at hx26_7)); (try (have hf26_7 := hfr26 7)); (try (try simp only [show (k59).sz = 8 from rfl, Nat.mul_one, Nat.add_zero] at hf26_7)); (try (clear hcl26 hcc26 hfr26 hM26)))); refine store_event (t := 3) (p := 48) (v := ?vo_w27) (w1 := (w25.setCell ⟨go20, (x8_2 : Int).toNat * 8 + 7, none⟩ (.int .i64 x6_1))) ?hg ?ho ?hn ?hr ?_; (case ho => rfl); (case hg => rfl); (case hn => rfl); (case hr => first | (go_simp; done) | (go_simp; rfl)); intro w27 hw; have hg : w25.grownBy w27 (some go20) := (by rw [hw]; exact HP26.2); have hp_ : Kd.R k59 59 w27 w.heap.size (fun _ => True) (.slice (some ⟨go20, 0, none⟩) x4_2.length co22) y184 := (by rw [hw, Ny184.out]; exact HP26.1); clear HP26; have n0_ := Aside0.mk (hp_); have n1_ := Aside0.mk (blk_grown (g := gb178) (o := .cells #[.int .i64 ((rd_T39 l0 x6_1).f0), .int .i64 ((rd_T39 l0 x6_1).f1), .bool ((rd_T39 l0 x6_1).f2), .int .i64 ((rd_T39 l0 x6_1).f3), .int .i64 ((rd_T39 l0 x6_1).f4), .bool ((rd_T39 l0 x6_1).f5)] 39 (0, 0)) (by (with_reducible repeat (first | refine blk_drewN ?_ _ | refine blk_drew ?_ | refine blk_alloc ?_ _)); exact BK178.out) hg (Kd.R_ne HO_4.out BK178.out (by decide))); have n2_ := Aside0.mk ((by rw [hw]; exact below_set (HB.out) GB20.out : Below w.heap.size w w27)); clear HO_4; clear BK178; clear HB; have HO_4 := n0_; have BK178 := n1_; have HB := n2_; clear n0_ n1_ n2_; clear hg hw hp_)); try go_wp2_with (first | ((with_reducible refine gate_store (t := 3) (p := 46) rfl ?_); (try (rw [drewN_self wr]; generalize hq_ : World.drewN wr _ = wr; have n0_ := Aside0.mk (Kd.R_at hq_ HO_4.out); have n1_ := Aside0.mk (blk_at hq_ BK178.out); have n2_ := Aside0.mk (below_at hq_ HB.out); clear hq_ HO_4 BK178 HB; have HO_4 := n0_; have BK178 := n1_; have HB := n2_; clear n0_ n1_ n2_; (try (have HX24 := Aside0.mk (show Kd.R k59 59 wr w.heap.size (fun _ => True) (.slice (some ⟨go20, 0, none⟩) x4_2.length co22) x4_2 from (by (with_reducible repeat (first | apply Kd.R_alloc | apply Kd.R_drewN | apply Kd.R_drew)); exact HO_4.out)))); (try (obtain ⟨ce24, hcl24, hM24, hcc24, hfr24⟩ := Kd.R_elem HX24.out z59 (x8_2 : Int) (of_decide_eq_true (by first | (with_reducible assumption) | assumption)) (by have h_ : (x8_2 : Int) < ((x4_2.length : Int) : Int) := of_decide_eq_true (by first | (with_reducible assumption) | assumption); first | exact h_ | (have e_ := (Kd.R_reads' HO_4.out).1; omega) | simpa using h_))); (try (obtain rfl := k59_openM hM24)); (try (have HP24 := Kd.R_seg HX24.out (x8_2 : Int) (of_decide_eq_true (by first | (with_reducible assumption) | assumption)) (by have h_ : (x8_2 : Int) < ((x4_2.length : Int) : Int) := of_decide_eq_true (by first | (with_reducible assumption) | assumption); first | exact h_ | (have e_ := (Kd.R_reads' HO_4.out).1; omega) | simpa using h_) (seg := [.int .i64 ((rd_T39 l0 x6_1).f4)]) (j := 2) hcl24 hcc24 (show 3 ≤ 8 from by decide) (x' := (⟨(rd_T59 x4_2 x8_2).f0, (rd_T59 x4_2 x8_2).f1, ((rd_T39 l0 x6_1).f4), (rd_T59 x4_2 x8_2).f3, (rd_T59 x4_2 x8_2).f4, (rd_T59 x4_2 x8_2).f5, (rd_T59 x4_2 x8_2).f6, (rd_T59 x4_2 x8_2).f7⟩ : S59)) (k59_mkM _ _ _ (⟨(rd_T59 x4_2 x8_2).f0, (rd_T59 x4_2 x8_2).f1, ((rd_T39 l0 x6_1).f4), (rd_T59 x4_2 x8_2).f3, (rd_T59 x4_2 x8_2).f4, (rd_T59 x4_2 x8_2).f5, (rd_T59 x4_2 x8_2).f6, (rd_T59 x4_2 x8_2).f7⟩ : S59) ) (fun _ hk => hk))); (try (have hx24_2 := hcc24 2 _ rfl)); (try (try simp only [show (k59).sz = 8 from rfl, Nat.mul_one, Nat.add_zero] at hx24_2)); (try (have hf24_2 := hfr24 2)); (try (try simp only [show (k59).sz = 8 from rfl, Nat.mul_one, Nat.add_zero] at hf24_2)); (try (clear hcl24 hcc24 hfr24 hM24)))); refine store_event (t := 3) (p := 46) (v := ?vo_w25) (w1 := (wr.setCell ⟨go20, (x8_2 : Int).toNat * 8 + 2, none⟩ (.int .i64 ((rd_T39 l0 x6_1).f4)))) ?hg ?ho ?hn ?hr ?_; (case ho => rfl); (case hg => rfl); (case hn => rfl); (case hr => first | (go_simp; done) | (go_simp; rfl)); intro w25 hw; have hg : wr.grownBy w25 (some go20) := (by rw [hw]; exact HP24.2); have hp_ : Kd.R k59 59 w25 w.heap.size (fun _ => True) (.slice (some ⟨go20, 0, none⟩) x4_2.length co22) y183 := (by rw [hw, Ny183.out]; exact HP24.1); clear HP24; have n0_ := Aside0.mk (hp_); have n1_ := Aside0.mk (blk_grown (g := gb178) (o := .cells #[.int .i64 ((rd_T39 l0 x6_1).f0), .int .i64 ((rd_T39 l0 x6_1).f1), .bool ((rd_T39 l0 x6_1).f2), .int .i64 ((rd_T39 l0 x6_1).f3), .int .i64 ((rd_T39 l0 x6_1).f4), .bool ((rd_T39 l0 x6_1).f5)] 39 (0, 0)) (by (with_reducible repeat (first | refine blk_drewN ?_ _ | refine blk_drew ?_ | refine blk_alloc ?_ _)); exact BK178.out) hg (Kd.R_ne HO_4.out BK178.out (by decide))); have n2_ := Aside0.mk ((by rw [hw]; exact below_set (HB.out) GB20.out : Below w.heap.size w w25)); clear HO_4; clear BK178; clear HB; have HO_4 := n0_; have BK178 := n1_; have HB := n2_; clear n0_ n1_ n2_; clear hg hw hp_; have p21 : 0 ≤ (x8_2 : Int) := of_decide_eq_true (by first | (with_reducible assumption) | assumption); have q21 : (x8_2 : Int) < ((x4_2.length : Int) : Int) := of_decide_eq_true (by first | (with_reducible assumption) | assumption); obtain ⟨ce21, hcl21, hM21, hcc21, hfr21⟩ := Kd.R_elem HO_4.out z59 (x8_2 : Int) p21 q21; obtain rfl := k59_openM hM21; have hx21_0 : w25.cell? ⟨go20, (x8_2 : Int).toNat * 8, none⟩ = some (.int .i64 ((rd_T59 y183 x8_2).f0)) := hcc21 0 _ rfl; have hx21_1 : w25.cell? ⟨go20, (x8_2 : Int).toNat * 8 + 1, none⟩ = some (.int .i64 ((rd_T59 y183 x8_2).f1)) := hcc21 1 _ rfl; have hx21_2 : w25.cell? ⟨go20, (x8_2 : Int).toNat * 8 + 2, none⟩ = some (.int .i64 ((rd_T59 y183 x8_2).f2)) := hcc21 2 _ rfl; have hx21_3 : w25.cell? ⟨go20, (x8_2 : Int).toNat * 8 + 3, none⟩ = some (.bool ((rd_T59 y183 x8_2).f3)) := hcc21 3 _ rfl; have hx21_4 : w25.cell? ⟨go20, (x8_2 : Int).toNat * 8 + 4, none⟩ = some (.bool ((rd_T59 y183 x8_2).f4)) := hcc21 4 _ rfl; have hx21_5 : w25.cell? ⟨go20, (x8_2 : Int).toNat * 8 + 5, none⟩ = some (.int .i64 ((rd_T59 y183 x8_2).f5)) := hcc21 5 _ rfl; have hx21_6 : w25.cell? ⟨go20, (x8_2 : Int).toNat * 8 + 6, none⟩ = some (.int .i64 ((rd_T59 y183 x8_2).f6)) := hcc21 6 _ rfl; have hx21_7 : w25.cell? ⟨go20, (x8_2 : Int).toNat * 8 + 7, none⟩ = some (.int .i64 ((rd_T59 y183 x8_2).f7)) := hcc21 7 _ rfl; have hf21_0 : w25.frozen? ⟨go20, (x8_2 : Int).toNat * 8, none⟩ = false := hfr21 0; have hf21_1 : w25.frozen? ⟨go20, (x8_2 : Int).toNat * 8 + 1, none⟩ = false := hfr21 1; have hf21_2 : w25.frozen? ⟨go20, (x8_2 : Int).toNat * 8 + 2, none⟩ = false := hfr21 2; have hf21_3 : w25.frozen? ⟨go20, (x8_2 : Int).toNat * 8 + 3, none⟩ = false := hfr21 3; have hf21_4 : w25.frozen? ⟨go20, (x8_2 : Int).toNat * 8 + 4, none⟩ = false := hfr21 4; have hf21_5 : w25.frozen? ⟨go20, (x8_2 : Int).toNat * 8 + 5, none⟩ = false := hfr21 5; have hf21_6 : w25.frozen? ⟨go20, (x8_2 : Int).toNat * 8 + 6, none⟩ = false := hfr21 6; have hf21_7 : w25.frozen? ⟨go20, (x8_2 : Int).toNat * 8 + 7, none⟩ = false := hfr21 7; clear hcl21 hcc21 hfr21 hM21; replace p21 := eq_true p21; replace q21 := eq_true q21; have HX26 := Aside0.mk (show Kd.R k59 59 w25 w.heap.size (fun _ => True) (.slice (some ⟨go20, 0, none⟩) x4_2.length co22) y183 from (by (with_reducible repeat (first | apply Kd.R_alloc | apply Kd.R_drewN | apply Kd.R_drew)); exact HO_4.out)); obtain ⟨ce26, hcl26, hM26, hcc26, hfr26⟩ := Kd.R_elem HX26.out z59 (x8_2 : Int) (of_decide_eq_true (by first | (with_reducible assumption) | assumption)) (by have h_ : (x8_2 : Int) < ((x4_2.length : Int) : Int) := of_decide_eq_true (by first | (with_reducible assumption) | assumption); first | exact h_ | (have e_ := (Kd.R_reads' HO_4.out).1; omega) | simpa using h_); obtain rfl := k59_openM hM26; have HP26 := Kd.R_seg HX26.out (x8_2 : Int) (of_decide_eq_true (by first | (with_reducible assumption) | assumption)) (by have h_ : (x8_2 : Int) < ((x4_2.length : Int) : Int) := of_decide_eq_true (by first | (with_reducible assumption) | assumption); first | exact h_ | (have e_ := (Kd.R_reads' HO_4.out).1; omega) | simpa using h_) (seg := [.int .i64 x6_1]) (j := 7) hcl26 hcc26 (show 8 ≤ 8 from by decide) (x' := (⟨(rd_T59 y183 x8_2).f0, (rd_T59 y183 x8_2).f1, (rd_T59 y183 x8_2).f2, (rd_T59 y183 x8_2).f3, (rd_T59 y183 x8_2).f4, (rd_T59 y183 x8_2).f5, (rd_T59 y183 x8_2).f6, x6_1⟩ : S59)) (k59_mkM _ _ _ (⟨(rd_T59 y183 x8_2).f0, (rd_T59 y183 x8_2).f1, (rd_T59 y183 x8_2).f2, (rd_T59 y183 x8_2).f3, (rd_T59 y183 x8_2).f4, (rd_T59 y183 x8_2).f5, (rd_T59 y183 x8_2).f6, x6_1⟩ : S59) ) (fun _ hk => hk); have hx26_7 := hcc26 7 _ rfl; (try simp only [show (k59).sz = 8 from rfl, Nat.mul_one, Nat.add_zero] at hx26_7); have hf26_7 := hfr26 7; (try simp only [show (k59).sz = 8 from rfl, Nat.mul_one, Nat.add_zero] at hf26_7); clear hcl26 hcc26 hfr26 hM26) | ((with_reducible refine gate_store (t := 3) (p := 48) rfl ?_); (try (rw [drewN_self w25]; generalize hq_ : World.drewN w25 _ = w25; have n0_ := Aside0.mk (Kd.R_at hq_ HO_4.out); have n1_ := Aside0.mk (blk_at hq_ BK178.out); have n2_ := Aside0.mk (below_at hq_ HB.out); clear hq_ HO_4 BK178 HB; have HO_4 := n0_; have BK178 := n1_; have HB := n2_; clear n0_ n1_ n2_; (try (have HX26 := Aside0.mk (show Kd.R k59 59 w25 w.heap.size (fun _ => True) (.slice (some ⟨go20, 0, none⟩) x4_2.length co22) y183 from (by (with_reducible repeat (first | apply Kd.R_alloc | apply Kd.R_drewN | apply Kd.R_drew)); exact HO_4.out)))); (try (obtain ⟨ce26, hcl26, hM26, hcc26, hfr26⟩ := Kd.R_elem HX26.out z59 (x8_2 : Int) (of_decide_eq_true (by first | (with_reducible assumption) | assumption)) (by have h_ : (x8_2 : Int) < ((x4_2.length : Int) : Int) := of_decide_eq_true (by first | (with_reducible assumption) | assumption); first | exact h_ | (have e_ := (Kd.R_reads' HO_4.out).1; omega) | simpa using h_))); (try (obtain rfl := k59_openM hM26)); (try (have HP26 := Kd.R_seg HX26.out (x8_2 : Int) (of_decide_eq_true (by first | (with_reducible assumption) | assumption)) (by have h_ : (x8_2 : Int) < ((x4_2.length : Int) : Int) := of_decide_eq_true (by first | (with_reducible assumption) | assumption); first | exact h_ | (have e_ := (Kd.R_reads' HO_4.out).1; omega) | simpa using h_) (seg := [.int .i64 x6_1]) (j := 7) hcl26 hcc26 (show 8 ≤ 8 from by decide) (x' := (⟨(rd_T59 y183 x8_2).f0, (rd_T59 y183 x8_2).f1, (rd_T59 y183 x8_2).f2, (rd_T59 y183 x8_2).f3, (rd_T59 y183 x8_2).f4, (rd_T59 y183 x8_2).f5, (rd_T59 y183 x8_2).f6, x6_1⟩ : S59)) (k59_mkM _ _ _ (⟨(rd_T59 y183 x8_2).f0, (rd_T59 y183 x8_2).f1, (rd_T59 y183 x8_2).f2, (rd_T59 y183 x8_2).f3, (rd_T59 y183 x8_2).f4, (rd_T59 y183 x8_2).f5, (rd_T59 y183 x8_2).f6, x6_1⟩ : S59) ) (fun _ hk => hk))); (try (have hx26_7 := hcc26 7 _ rfl)); (try (try simp only [show (k59).sz = 8 from rfl, Nat.mul_one, Nat.add_zero] at hx26_7)); (try (have hf26_7 := hfr26 7)); (try (try simp only [show (k59).sz = 8 from rfl, Nat.mul_one, Nat.add_zero] at hf26_7)); (try (clear hcl26 hcc26 hfr26 hM26)))); refine store_event (t := 3) (p := 48) (v := ?vo_w27) (w1 := (w25.setCell ⟨go20, (x8_2 : Int).toNat * 8 + 7, none⟩ (.int .i64 x6_1))) ?hg ?ho ?hn ?hr ?_; (case ho => rfl); (case hg => rfl); (case hn => rfl); (case hr => first | (go_simp; done) | (go_simp; rfl)); intro w27 hw; have hg : w25.grownBy w27 (some go20) := (by rw [hw]; exact HP26.2); have hp_ : Kd.R k59 59 w27 w.heap.size (fun _ => True) (.slice (some ⟨go20, 0, none⟩) x4_2.length co22) y184 := (by rw [hw, Ny184.out]; exact HP26.1); clear HP26; have n0_ := Aside0.mk (hp_); have n1_ := Aside0.mk (blk_grown (g := gb178) (o := .cells #[.int .i64 ((rd_T39 l0 x6_1).f0), .int .i64 ((rd_T39 l0 x6_1).f1), .bool ((rd_T39 l0 x6_1).f2), .int .i64 ((rd_T39 l0 x6_1).f3), .int .i64 ((rd_T39 l0 x6_1).f4), .bool ((rd_T39 l0 x6_1).f5)] 39 (0, 0)) (by (with_reducible repeat (first | refine blk_drewN ?_ _ | refine blk_drew ?_ | refine blk_alloc ?_ _)); exact BK178.out) hg (Kd.R_ne HO_4.out BK178.out (by decide))); have n2_ := Aside0.mk ((by rw [hw]; exact below_set (HB.out) GB20.out : Below w.heap.size w w27)); clear HO_4; clear BK178; clear HB; have HO_4 := n0_; have BK178 := n1_; have HB := n2_; clear n0_ n1_ n2_; clear hg hw hp_)))
                          go_roundg k2
                          case measure => have := HK1.out; have := HK2.out; omega
                          case rel => exact ⟨(y184), (wrap64 (x8_2 + 1)), (by first | rfl | (simp; done) | (simp [*]; done)), H', ⟨by have := HK1.out; have := HK2.out; omega⟩, ⟨by (with_reducible repeat (first | apply Kd.R_alloc | apply Kd.R_drewN | apply Kd.R_drew)); exact HO_4.out⟩, ⟨by (with_reducible repeat (first | refine blk_drewN ?_ _ | refine blk_drew ?_ | refine blk_alloc ?_ _)); exact BK178.out⟩, ⟨by repeat (first | (with_reducible first | exact HB.out | apply below_alloc | apply pw_below_drewN | apply below_drew1 | refine below_set ?_ GE178.out) | exact HB.out)⟩⟩
                        · rw [if_neg c19] at H
                          have c19b0 : (((rd_T59 x4_2 x8_2).f0) == ((rd_T39 l0 x6_1).f1)) = false := beq_eq_false_iff_ne.mpr c19
                          have c19b1 : (((rd_T59 x4_2 x8_2).f0) != ((rd_T39 l0 x6_1).f1)) = true := bne_iff_ne.mpr c19
                          have H' := Aside0.mk H
                          clear H
                          obtain ⟨Ao28, co28, eo28⟩ := Kd.R_slice HO_4.out
                          subst eo28
                          have p182 : 0 ≤ (x8_2 : Int) := of_decide_eq_true (by first | (with_reducible assumption) | assumption)
                          have q182 : x8_2 < (x4_2.length : Int) := of_decide_eq_true (by first | (with_reducible assumption) | assumption)
                          obtain ⟨ad182, e182, hx182_0, hx182_1, hx182_2, hx182_3, hx182_4, hx182_5, hx182_6, hx182_7⟩ := at_T59 (Kd.R_reads' HO_4.out).2.2 x8_2 p182 q182
                          cases e182
                          replace p182 := eq_true p182
                          replace q182 := eq_true q182
                          have hcz29_0 : wr.cell? ⟨gb178, 0, none⟩ = some (.int .i64 ((rd_T39 l0 x6_1).f0)) := (blk_cell BK178.out 0).trans rfl
                          have hcz29_1 : wr.cell? ⟨gb178, 1, none⟩ = some (.int .i64 ((rd_T39 l0 x6_1).f1)) := (blk_cell BK178.out 1).trans rfl
                          have hcz29_2 : wr.cell? ⟨gb178, 2, none⟩ = some (.bool ((rd_T39 l0 x6_1).f2)) := (blk_cell BK178.out 2).trans rfl
                          have hcz29_3 : wr.cell? ⟨gb178, 3, none⟩ = some (.int .i64 ((rd_T39 l0 x6_1).f3)) := (blk_cell BK178.out 3).trans rfl
                          have hcz29_4 : wr.cell? ⟨gb178, 4, none⟩ = some (.int .i64 ((rd_T39 l0 x6_1).f4)) := (blk_cell BK178.out 4).trans rfl
                          have hcz29_5 : wr.cell? ⟨gb178, 5, none⟩ = some (.bool ((rd_T39 l0 x6_1).f5)) := (blk_cell BK178.out 5).trans rfl
                          have hfz29_0 := blk_frozen BK178.out 0
                          have hfz29_1 := blk_frozen BK178.out 1
                          have hfz29_2 := blk_frozen BK178.out 2
                          have hfz29_3 := blk_frozen BK178.out 3
                          have hfz29_4 := blk_frozen BK178.out 4
                          have hfz29_5 := blk_frozen BK178.out 5
                          go_wp2
                          repeat (go_quiet (fail); try go_wp2)
                          go_roundg k2
                          case measure => have := HK1.out; have := HK2.out; omega
                          case rel => exact ⟨(x4_2), (wrap64 (x8_2 + 1)), (by first | rfl | (simp; done) | (simp [*]; done)), H', ⟨by have := HK1.out; have := HK2.out; omega⟩, ⟨by (with_reducible repeat (first | apply Kd.R_alloc | apply Kd.R_drewN | apply Kd.R_drew)); exact HO_4.out⟩, ⟨by (with_reducible repeat (first | refine blk_drewN ?_ _ | refine blk_drew ?_ | refine blk_alloc ?_ _)); exact BK178.out⟩, ⟨by repeat (first | (with_reducible first | exact HB.out | apply below_alloc | apply pw_below_drewN | apply below_drew1 | refine below_set ?_ GE178.out) | exact HB.out)⟩⟩
                      · rw [if_neg c18] at H
                        exact absurd H (by simp)
                    · rw [if_neg c17] at H
                      have c17b0 : decide (x8_2 < (x4_2.length : Int)) = false := decide_eq_false c17
                      clear c17
                      have H' := Aside0.mk H
                      clear H
                      obtain ⟨Ao30, co30, eo30⟩ := Kd.R_slice HO_4.out
                      subst eo30
                      go_wp2
                      repeat (go_quiet (fail); try go_wp2)
                      go_roundg k2
                      case measure => have := HK1.out; have := HK2.out; omega
                      case rel => exact ⟨(x4_2), (x5_1), (wrap64 (x6_1 + 1)), (by first | rfl | (simp; done) | (simp [*]; done)), (by first | rfl | (simp; done) | (simp [*]; done)), H', ⟨by have := HK1.out; have := HK2.out; omega⟩, ⟨by (with_reducible repeat (first | apply Kd.R_alloc | apply Kd.R_drewN | apply Kd.R_drew)); exact HO_4.out⟩, ⟨by repeat (first | (with_reducible first | exact HB.out | apply below_alloc | apply pw_below_drewN | apply below_drew1 | refine below_set ?_ GE178.out) | exact HB.out)⟩⟩
          · rw [if_neg c6] at H
            exact absurd H (by simp)
        · rw [if_neg c5] at H
          have c5b0 : decide (x6_1 < (l0.length : Int)) = false := decide_eq_false c5
          clear c5
          simp only [Option.some.injEq, Prod.mk.injEq] at H
          obtain ⟨rfl, rfl⟩ := H
          go_wp2
          repeat (go_quiet (fail); try go_wp2)
          go_ret2
          exact ⟨_, by first | rfl | (simp [errW_none, errW_some] <;> rfl) | (simp [*, errW_none, errW_some] <;> rfl), by (with_reducible repeat (first | apply Kd.R_alloc | apply Kd.R_drewN | apply Kd.R_drew)); exact HO_4.out, by repeat (first | (with_reducible first | exact HB.out | apply below_alloc | apply pw_below_drewN | apply below_drew1) | exact HB.out)⟩
  · replace c3 := Bool.eq_false_iff.mpr c3
    subst c3
    have H1 : (some (([] : List (S59)), 1)) = some (r1, r2) := by rw [if_neg (show ¬ (false = true) by decide)] at H; exact H
    clear H
    have H := H1
    clear H1
    simp only [Option.some.injEq, Prod.mk.injEq] at H
    obtain ⟨rfl, rfl⟩ := H
    go_enter Try.func33, Try.ntmps33
    go_wp2_with (first | (go_at_call 40; (with_reducible refine (tegularef45_Valid.calls _ _ l0 false _ ?side1 ?side2 A2.out).mono ?_); (case side1 => repeat (first | exact HR0.out | (with_reducible refine Kd.C_alloc ?_ _) | (with_reducible refine Kd.C_drewN ?_ _) | (with_reducible refine Kd.C_drew ?_))); (case side2 => exact HC0.out); rintro e w31 ⟨rfl, hb⟩; have n0_ := Aside0.mk (below_step (by repeat (first | (with_reducible first | exact HB.out | apply below_alloc | apply pw_below_drewN | apply below_drew1) | exact HB.out)) hb); clear HB; have HB := n0_; clear n0_; (try clear hb); (try clear hb2); (try clear hk); (try clear hi)))
    repeat (go_quiet (first | (go_at_call 40; (with_reducible refine (tegularef45_Valid.calls _ _ l0 false _ ?side1 ?side2 A2.out).mono ?_); (case side1 => repeat (first | exact HR0.out | (with_reducible refine Kd.C_alloc ?_ _) | (with_reducible refine Kd.C_drewN ?_ _) | (with_reducible refine Kd.C_drew ?_))); (case side2 => exact HC0.out); rintro e w31 ⟨rfl, hb⟩; have n0_ := Aside0.mk (below_step (by repeat (first | (with_reducible first | exact HB.out | apply below_alloc | apply pw_below_drewN | apply below_drew1) | exact HB.out)) hb); clear HB; have HB := n0_; clear n0_; (try clear hb); (try clear hb2); (try clear hk); (try clear hi))); try go_wp2_with (first | (go_at_call 40; (with_reducible refine (tegularef45_Valid.calls _ _ l0 false _ ?side1 ?side2 A2.out).mono ?_); (case side1 => repeat (first | exact HR0.out | (with_reducible refine Kd.C_alloc ?_ _) | (with_reducible refine Kd.C_drewN ?_ _) | (with_reducible refine Kd.C_drew ?_))); (case side2 => exact HC0.out); rintro e w31 ⟨rfl, hb⟩; have n0_ := Aside0.mk (below_step (by repeat (first | (with_reducible first | exact HB.out | apply below_alloc | apply pw_below_drewN | apply below_drew1) | exact HB.out)) hb); clear HB; have HB := n0_; clear n0_; (try clear hb); (try clear hb2); (try clear hk); (try clear hi))))
    go_ret2
    exact ⟨_, by first | rfl | (simp [errW_none, errW_some] <;> rfl) | (simp [*, errW_none, errW_some] <;> rfl), by first | exact Kd.R_nil _ _ _ _ _ | exact Kd.N_nil _ _ _ _ _ | exact Kd.V_nil _ _ _ _ _ | exact Kd.Q_nil _ _ _ _ _ | exact Kd.S_nil _ _ _ _ _, by repeat (first | (with_reducible first | exact HB.out | apply below_alloc | apply pw_below_drewN | apply below_drew1) | exact HB.out)⟩

end Go.Proofs.Ytidghmgaaenihaa.Q

/-! part ROps -/
namespace Go.Proofs.Ytidghmgaaenihaa.Q
open Go.RowKit Go.Proofs.YtidghmgaaenihaaW.PrintWords Go.Proofs.YtidghmgaaenihaaW.PrintLast Go.Proofs.YtidghmgaaenihaaW.PrintMore
set_option linter.unusedVariables false
set_option linter.unusedSimpArgs false

def to59 (o : S60) : S59 := ⟨o.f0, o.f1, o.f2, o.f3, o.f4, o.f5, o.f6, o.f7⟩
theorem C_60 {w : World} {A : Option Addr} {n : Nat} {l : List S60} (h : Kd.C k59 w A n (l.map to59)) : Kd.C k60 w A n l :=
  ⟨by have := h.1; rwa [List.length_map] at this, h.2.1, fun hn => by
    obtain ⟨ad, e, hc⟩ := h.2.2 hn
    refine ⟨ad, e, fun j p hj => ?_⟩
    obtain ⟨cs, h1, h2, h3⟩ := hc j (to59 p) (by rw [List.getElem?_map, hj]; rfl)
    exact ⟨cs, h1, h2, h3⟩⟩
def updS (id v x : Int) (o : S59) : S59 := if o.f0 = id then { o with f2 := v, f7 := x } else o
def updFrom (id v x : Int) (L : List S59) (y : Nat) : List S59 := L.take y ++ (L.drop y).map (updS id v x)
theorem updFrom_end (id v x : Int) (L : List S59) : updFrom id v x L L.length = L := by simp [updFrom]
theorem updFrom_skip {id v x : Int} {L : List S59} {y : Nat} (hy : y < L.length) (h : L[y].f0 ≠ id) : updFrom id v x L y = updFrom id v x L (y + 1) := by
  unfold updFrom
  rw [List.drop_eq_getElem_cons hy, List.map_cons, show updS id v x L[y] = L[y] from if_neg h, show L.take (y + 1) = L.take y ++ [L[y]] from List.take_succ_eq_append_getElem hy, List.append_assoc]
  rfl
theorem updFrom_hit {id v x : Int} {L : List S59} {y : Nat} (hy : y < L.length) (h : L[y].f0 = id) : updFrom id v x L y = updFrom id v x (L.set y { L[y] with f2 := v, f7 := x }) (y + 1) := by
  unfold updFrom
  rw [List.drop_eq_getElem_cons hy, List.map_cons, updS, if_pos h, List.take_succ_eq_append_getElem (by simpa using hy), List.take_set_of_le (Nat.le_refl y), List.drop_set_of_lt (by omega)]
  simp
theorem rd59_at {l : List S59} {y : Nat} (h : y < l.length) : rd_T59 l (y : Int) = l[y] := by
  simp [rd_T59, List.getD_eq_getElem?_getD, h]
theorem ops_l1 (l : List S39) (e : S39) (era : Int) (x : Nat) (hx : x < l.length) (hsz : l.length ≤ 1000000) (r : List S59 × Int) : ∀ (d y : Nat) (L : List S59), L.length - y = d → y ≤ L.length → L.length ≤ 1000000 →
    (∃ k, tegularef45_Ops.l0 k l (updFrom e.f1 e.f4 x L y) era ((x + 1 : Nat) : Int) = some r) → ∃ k, tegularef45_Ops.l1 k l L era x y e.f0 e.f1 e.f2 e.f3 e.f4 e.f5 = some r
  | 0, y, L, hd, hy, hL, ⟨k, hk⟩ => by
    obtain rfl : y = L.length := by omega
    rw [updFrom_end] at hk
    exact ⟨k + 1, by rw [tegularef45_Ops.l1, if_neg (by omega), wrap_succ (by omega) (by omega)]; exact hk⟩
  | d + 1, y, L, hd, hy, hL, h => by
    have hyl : y < L.length := by omega
    by_cases hm : L[y].f0 = e.f1
    · rw [updFrom_hit hyl hm] at h
      obtain ⟨k, hk⟩ := ops_l1 l e era x hx hsz r d (y + 1) _ (by rw [List.length_set]; omega) (by rw [List.length_set]; omega) (by rw [List.length_set]; omega) h
      refine ⟨k + 1, ?_⟩
      rw [tegularef45_Ops.l1, if_pos (by omega), if_pos (by omega), rd59_at hyl, if_pos hm, Option.bind_some, wrap_succ (by omega) (by omega), Int.toNat_natCast, List.set_set, rd59_at (by simpa using hyl), List.getElem_set_self]
      exact hk
    · rw [updFrom_skip hyl hm] at h
      obtain ⟨k, hk⟩ := ops_l1 l e era x hx hsz r d (y + 1) L (by omega) (by omega) hL h
      refine ⟨k + 1, ?_⟩
      rw [tegularef45_Ops.l1, if_pos (by omega), if_pos (by omega), rd59_at hyl, if_neg hm, wrap_succ (by omega) (by omega)]
      exact hk
theorem upd_set {ops : List S60} (hnd : ops.Pairwise (fun a b => a.f0 ≠ b.f0)) {j : Nat} (hj : j < ops.length) (e : S39) (x : Int) (h : (opAt ops j).f0 = e.f1) :
    updFrom e.f1 e.f4 x (ops.map to59) 0 = (ops.set j (doneOp (opAt ops j) e x)).map to59 := by
  unfold updFrom
  rw [List.take_zero, List.drop_zero, List.nil_append]
  apply List.ext_getElem
  · simp
  · intro i h1 h2
    simp only [List.length_map, List.length_set] at h1 h2
    rw [List.getElem_map, List.getElem_map, List.getElem_map, List.getElem_set]
    split
    · rename_i hij
      subst hij
      rw [opAt_get hj] at h ⊢
      rw [updS, if_pos (show (to59 ops[j]).f0 = e.f1 from h)]
      rfl
    · rename_i hne
      rw [updS, if_neg]
      intro he
      rw [opAt_get hj] at h
      rcases Nat.lt_or_gt_of_ne hne with hlt | hgt
      · exact List.pairwise_iff_getElem.1 hnd j i hj h1 hlt (h.trans he.symm)
      · exact List.pairwise_iff_getElem.1 hnd i j h1 hj hgt (he.trans h.symm)
theorem ops_l0 (l : List S39) (hsz : l.length ≤ 1000000) (S : List S60 × Int) (hS : parseP l = some S) : ∀ (d x : Nat), l.length - x = d → x ≤ l.length → ∀ s, ptake l x = some s →
    ∃ k, tegularef45_Ops.l0 k l (s.1.map to59) s.2 x = some (S.1.map to59, 0)
  | 0, x, hd, hx, s, hs => by
    obtain rfl : x = l.length := by omega
    have : some s = some S := hs.symm.trans hS
    cases this
    exact ⟨1, by rw [tegularef45_Ops.l0, if_neg (by omega)]⟩
  | d + 1, x, hd, hx, s, hs => by
    have hxl : x < l.length := by omega
    have hI := ptake_inv l x hs
    cases hp : pstep l x (rd_T39 l x) s with
    | none => rw [parse_none l x hxl hs hp] at hS; cases hS
    | some s' =>
      obtain ⟨k, hk⟩ := ops_l0 l hsz S hS d (x + 1) (by omega) (by omega) s' (ptake_succ l x hs hp)
      generalize he : rd_T39 l (x : Int) = e at hp
      obtain ⟨ops, era⟩ := s
      have hera := hI.era
      have hlen := hI.len
      simp only at hera hlen hk ⊢
      unfold pstep at hp
      split at hp
      · rename_i h1
        split at hp
        · cases hp
        · split at hp
          · cases hp
            refine ⟨k + 1, ?_⟩
            rw [tegularef45_Ops.l0, if_pos (by omega), if_pos (by omega), he, if_neg (by omega), if_pos h1, if_pos (by rw [List.length_map]; omega), wrap_succ (by omega) (by omega)]
            rw [List.map_append] at hk
            exact hk
          · cases hp
      · rename_i h1
        split at hp
        · rename_i h2
          split at hp
          · cases hp
          · rename_i j hj
            obtain ⟨j1, j2, j3⟩ := at?_some hj
            split at hp
            · cases hp
            · split at hp
              · split at hp
                · cases hp
                  simp only at hk
                  rw [← upd_set hI.nodup j1 e x j2] at hk
                  obtain ⟨k2, hk2⟩ := ops_l1 l e era x hxl hsz _ _ 0 (ops.map to59) rfl (by omega) (by rw [List.length_map]; omega) ⟨k, hk⟩
                  refine ⟨k2 + 1, ?_⟩
                  rw [tegularef45_Ops.l0, if_pos (by omega), if_pos (by omega), he, if_neg (by omega), if_neg h1]
                  exact hk2
                · cases hp
              · cases hp
        · split at hp
          · rename_i h3
            split at hp
            · cases hp
              refine ⟨k + 1, ?_⟩
              rw [tegularef45_Ops.l0, if_pos (by omega), if_pos (by omega), he, if_pos h3, wrap_succ (by omega) (by omega), wrap_succ (by omega) (by omega)]
              exact hk
            · cases hp
          · cases hp
theorem ops33_f (l : List S39) (hsz : l.length ≤ 1000000) : ∃ k, tegularef45_Ops.f k l = some ((opsP l).1.map to59, (opsP l).2) := by
  unfold opsP
  cases hp : parseP l with
  | none => exact ⟨0, by rw [tegularef45_Ops.f, tegularef45_Valid.f, if_pos hsz, valid_parse, hp]; rfl⟩
  | some S =>
    obtain ⟨k, hk⟩ := ops_l0 l hsz S hp l.length 0 (by omega) (by omega) _ rfl
    exact ⟨k, by rw [tegularef45_Ops.f, tegularef45_Valid.f, if_pos hsz, valid_parse, hp]; exact hk⟩
theorem ops_ref (A : Option Addr) (c : Nat) (l : List S39) (w : World) (hr : Kd.C k39 w A l.length l) (hc : l.length ≤ c) (hsz : l.length ≤ 1000000) :
    Calls Try.prog 33 #[.slice A l.length c] w fun e w' => ∃ (A1 : Option Addr) (c1 : Nat), e = .returned (.tuple #[.slice A1 (opsP l).1.length c1, .int .i64 (opsP l).2]) ∧ Kd.C k60 w' A1 (opsP l).1.length (opsP l).1 ∧ (opsP l).1.length ≤ c1 ∧ Below w.heap.size w w' := by
  obtain ⟨k, hk⟩ := ops33_f l hsz
  refine (tegularef45_Ops.calls k A c l _ _ w hr hc hk).mono ?_
  rintro e w' ⟨v, rfl, hR, hB⟩
  obtain ⟨A1, c1, rfl, h1, h2⟩ := Kd.R_reads hR
  rw [List.length_map] at h1 h2 ⊢
  exact ⟨A1, c1, rfl, C_60 h2, h1, hB⟩
end Go.Proofs.Ytidghmgaaenihaa.Q

/-! part Q56 -/
namespace Go.Proofs.Ytidghmgaaenihaa.Q
open Go.RowKit Go.Proofs.YtidghmgaaenihaaW.PrintWords Go.Proofs.YtidghmgaaenihaaW.PrintLast Go.Proofs.YtidghmgaaenihaaW.PrintMore
attribute [local go_sem] max2_int min2_int max_two min_two max_three min_three max_four min_four
set_option linter.unusedVariables false
set_option linter.unusedSimpArgs false

/-! ### tegularef47_read: function 56 -/
end Go.Proofs.Ytidghmgaaenihaa.Q

/-! part Q93 -/
namespace Go.Proofs.Ytidghmgaaenihaa.Q
open Go.RowKit Go.Proofs.YtidghmgaaenihaaW.PrintWords Go.Proofs.YtidghmgaaenihaaW.PrintLast Go.Proofs.YtidghmgaaenihaaW.PrintMore
attribute [local go_sem] max2_int min2_int max_two min_two max_three min_three max_four min_four
set_option linter.unusedVariables false
set_option linter.unusedSimpArgs false

/-! ### tegularef47_precedes: function 93 -/
end Go.Proofs.Ytidghmgaaenihaa.Q

/-! part RSrc -/
namespace Go.Proofs.Ytidghmgaaenihaa.Q
open Go.RowKit Go.Proofs.YtidghmgaaenihaaW.PrintWords Go.Proofs.YtidghmgaaenihaaW.PrintLast Go.Proofs.YtidghmgaaenihaaW.PrintMore
set_option linter.unusedVariables false
set_option linter.unusedSimpArgs false

end Go.Proofs.Ytidghmgaaenihaa.Q

/-! part RSeen -/
namespace Go.Proofs.Ytidghmgaaenihaa.Q
open Go.RowKit Go.Proofs.YtidghmgaaenihaaW.PrintWords Go.Proofs.YtidghmgaaenihaaW.PrintLast Go.Proofs.YtidghmgaaenihaaW.PrintMore
set_option linter.unusedVariables false
set_option linter.unusedSimpArgs false

end Go.Proofs.Ytidghmgaaenihaa.Q

/-! part RSurvives -/
namespace Go.Proofs.Ytidghmgaaenihaa.Q
open Go.RowKit Go.Proofs.YtidghmgaaenihaaW.PrintWords Go.Proofs.YtidghmgaaenihaaW.PrintLast Go.Proofs.YtidghmgaaenihaaW.PrintMore
set_option linter.unusedVariables false
set_option linter.unusedSimpArgs false

theorem at_op {w : World} {ad : Addr} {l : List S60} (h : Kd.C k60 w (some ad) l.length l) (i : Nat) (hi : i < l.length) :
    w.cell? (ad.add (i * 8)) = some (.int .i64 (opAt l i).f0) ∧ w.cell? ⟨(ad.add (i * 8)).block, (ad.add (i * 8)).off + 1, none⟩ = some (.int .i64 (opAt l i).f1) ∧ w.cell? ⟨(ad.add (i * 8)).block, (ad.add (i * 8)).off + 2, none⟩ = some (.int .i64 (opAt l i).f2) ∧
    w.cell? ⟨(ad.add (i * 8)).block, (ad.add (i * 8)).off + 3, none⟩ = some (.bool (opAt l i).f3) ∧ w.cell? ⟨(ad.add (i * 8)).block, (ad.add (i * 8)).off + 4, none⟩ = some (.bool (opAt l i).f4) ∧ w.cell? ⟨(ad.add (i * 8)).block, (ad.add (i * 8)).off + 5, none⟩ = some (.int .i64 (opAt l i).f5) ∧
    w.cell? ⟨(ad.add (i * 8)).block, (ad.add (i * 8)).off + 6, none⟩ = some (.int .i64 (opAt l i).f6) ∧ w.cell? ⟨(ad.add (i * 8)).block, (ad.add (i * 8)).off + 7, none⟩ = some (.int .i64 (opAt l i).f7) := by
  obtain ⟨ad', eA, h0, h1, h2, h3, h4, h5, h6, h7⟩ := at_T60 h i (by omega) (by omega)
  have e := Option.some.inj eA
  subst e
  rw [rd60_opAt hi, Int.toNat_natCast] at h0 h1 h2 h3 h4 h5 h6 h7
  exact ⟨h0, h1, h2, h3, h4, h5, h6, h7⟩
theorem row_some {w : World} {A : Option Addr} {l : List S60} (h : Kd.C k60 w A l.length l) {i : Nat} (hi : i < l.length) : ∃ ad, A = some ad := by
  obtain ⟨ad, eA, -⟩ := at_T60 h i (by omega) (by omega)
  exact ⟨ad, eA⟩
end Go.Proofs.Ytidghmgaaenihaa.Q

/-! part RStale -/
namespace Go.Proofs.Ytidghmgaaenihaa.Q
open Go.RowKit Go.Proofs.YtidghmgaaenihaaW.PrintWords Go.Proofs.YtidghmgaaenihaaW.PrintLast Go.Proofs.YtidghmgaaenihaaW.PrintMore
set_option linter.unusedVariables false
set_option linter.unusedSimpArgs false

end Go.Proofs.Ytidghmgaaenihaa.Q

/-! part RTrace -/
namespace Go.Proofs.Ytidghmgaaenihaa.Q
open Go.RowKit Go.Proofs.YtidghmgaaenihaaW.PrintWords Go.Proofs.YtidghmgaaenihaaW.PrintLast Go.Proofs.YtidghmgaaenihaaW.PrintMore
set_option linter.unusedVariables false
set_option linter.unusedSimpArgs false

theorem opsP_len (l : List S39) : (opsP l).1.length ≤ l.length := by
  unfold opsP
  cases h : parseP l with
  | none => simp
  | some s => exact (ptake_inv l l.length h).len
end Go.Proofs.Ytidghmgaaenihaa.Q

/-! part RSurv -/
namespace Go.Proofs.Ytidghmgaaenihaa.Q
open Go.RowKit Go.Proofs.YtidghmgaaenihaaW.PrintWords Go.Proofs.YtidghmgaaenihaaW.PrintLast Go.Proofs.YtidghmgaaenihaaW.PrintMore
set_option linter.unusedVariables false
set_option linter.unusedSimpArgs false

end Go.Proofs.Ytidghmgaaenihaa.Q

/-! part PSurv -/
namespace Go.Proofs.Ytidghmgaaenihaa.Q
open Go.RowKit
set_option linter.unusedVariables false
set_option linter.unusedSimpArgs false

theorem opAt_mem {ops : List S60} {i : Nat} (h : i < ops.length) : opAt ops i ∈ ops := by rw [opAt_get h]; exact List.getElem_mem _
end Go.Proofs.Ytidghmgaaenihaa.Q

/-! part RRegs -/
namespace Go.Proofs.Ytidghmgaaenihaa.Q
open Go.RowKit Go.Proofs.YtidghmgaaenihaaW.PrintWords Go.Proofs.YtidghmgaaenihaaW.PrintLast Go.Proofs.YtidghmgaaenihaaW.PrintMore
set_option linter.unusedVariables false
set_option linter.unusedSimpArgs false
theorem regL_snoc (ops : List S60) {x : Nat} (hx : x < ops.length) : regL (ops.take (x + 1)) = if regB (opAt ops x) = true then regL (ops.take x) ++ [(opAt ops x).f1] else regL (ops.take x) := by
  unfold regL
  rw [List.take_succ_eq_append_getElem hx, List.filter_append, ← opAt_get hx]
  cases hb : regB (opAt ops x) <;> simp [hb]
theorem SetOf.put {r m r2 : List Int} {x : Int} (h : SetOf r m) (hi : Ins r x r2) : SetOf r2 (m ++ [x]) :=
  ⟨hi.inc, fun y => by rw [hi.mem y, h.mem y, List.mem_append, List.mem_singleton]; exact Or.comm⟩
theorem SetOf.nil : SetOf [] [] := ⟨List.Pairwise.nil, fun x => Iff.rfl⟩
/-- Which operations are pending, as the reference says it. -/
def penB (l : List S39) (o : S60) : Bool := decide (o.f7 < 0) && !cutR l o.f6.toNat l.length
def penL (l : List S39) (ops : List S60) : List Int := (ops.filter (penB l)).map (·.f0)
theorem penL_snoc (l : List S39) (ops : List S60) {x : Nat} (hx : x < ops.length) : penL l (ops.take (x + 1)) = if penB l (opAt ops x) = true then penL l (ops.take x) ++ [(opAt ops x).f0] else penL l (ops.take x) := by
  unfold penL
  rw [List.take_succ_eq_append_getElem hx, List.filter_append, ← opAt_get hx]
  cases hb : penB l (opAt ops x) <;> simp [hb]
def RowPost (m : List Int) (n : Nat) (w : World) (e : Ending) (w' : World) : Prop :=
  ∃ A' r c', e = .returned (.slice A' r.length c') ∧ r.length ≤ c' ∧ Kd.C (Kd.int .i64) w' A' r.length r ∧ SetOf r m ∧ r.length ≤ n ∧ Below w.heap.size w w'
set_option maxHeartbeats 4000000 in
set_option maxRecDepth 100000 in
theorem registers_ref (A : Option Addr) (c : Nat) (l : List S39) (w : World) (hr : Kd.C k39 w A l.length l) (hc : l.length ≤ c) (hsz : l.length ≤ 100000) :
    Calls Try.prog 46 #[.slice A l.length c] w (RowPost (regL (opsP l).1) l.length w) := by
  have HR := Aside0.mk hr
  clear hr
  have hol := opsP_len l
  have HO := Aside0.mk (fun (W : World) (h : Kd.C k39 W A l.length l) => ops_ref A c l W h hc (by omega))
  generalize (opsP l).1 = ops at HO hol ⊢
  generalize (opsP l).2 = err at HO
  have HOL := Aside0.mk hol
  go_enter Try.func46, Try.ntmps46
  go_wp2_with fail
  (with_reducible refine (HO.out _ HR.out).mono ?_)
  rintro e wb ⟨A1, c1, rfl, hC, hc1, hB⟩
  have HC := Aside0.mk hC
  have HBB := Aside0.mk hB
  clear hC hB
  have hosz : ops.length ≤ 100000 := by omega
  go_wp2
  go_loopw [3, 6] (fun v3 v6 wr => ∃ (A' : Option Addr) (r : List Int) (c' x : Nat), x ≤ ops.length ∧ v6 = .int .i64 x ∧ v3 = .slice A' r.length c' ∧ r.length ≤ c' ∧ r.length ≤ x ∧ Aside0 (Kd.C (Kd.int .i64) wr A' r.length r) ∧ Aside0 (SetOf r (regL (ops.take x))) ∧ Aside0 (Below wb.heap.size wb wr))
    (fun _ v6 _ => ops.length - (intOf v6).toNat)
  case atStart => exact ⟨none, [], 0, 0, by omega, rfl, rfl, Nat.le_refl _, Nat.le_refl _, ⟨Kd.C_nil _ _⟩, ⟨SetOf.nil⟩, ⟨Below.refl _ _⟩⟩
  case round =>
    obtain ⟨A', r, c', x, hx, rfl, rfl, hrc, hrx, HRW, HS, HW⟩ := hrel
    by_cases hlt : x < ops.length
    · have hltb : (x : Int) < (ops.length : Int) := by omega
      have hxb : (x : Int) < 100000 := by omega
      have hx0 : (0 : Int) ≤ x := by omega
      obtain ⟨ad, eA⟩ := row_some HC.out hlt
      subst eA
      obtain ⟨g0, g1, g2, g3, g4, g5, g6, g7⟩ := at_op (Kd.C_below HC.out HW.out) x hlt
      have HSN := Aside0.mk (regL_snoc ops hlt)
      have HIN := Aside0.mk (fun (y : Int) (W : World) (h : Kd.C (Kd.int .i64) W A' r.length r) => insert_ref A' c' r y W h hrc (by omega) HS.out.inc)
      obtain ⟨o, HOo⟩ : ∃ o, Aside0 (opAt ops x = o) := ⟨_, ⟨rfl⟩⟩
      rw [HOo.out] at g0 g1 g2 g3 g4 g5 g6 g7 HSN
      obtain ⟨o0, o1, o2, o3, o4, o5, o6, o7⟩ := o
      simp only at g0 g1 g2 g3 g4 g5 g6 g7 HSN
      have hb : ∀ b, (o3 || !o4) = b → regB ⟨o0, o1, o2, o3, o4, o5, o6, o7⟩ = b := fun b h => h
      cases hrb : (o3 || !o4) with
      | false =>
        have HP2 := Aside0.mk (show SetOf r (regL (ops.take (x + 1))) by rw [HSN.out, hb _ hrb, if_neg (by decide)]; exact HS.out)
        obtain ⟨e3, e4⟩ : o3 = false ∧ o4 = true := by cases o3 <;> cases o4 <;> simp_all
        subst e3 e4
        clear hrb hb
        go_wp2
        go_roundw
        case rel => exact ⟨A', r, c', x + 1, by omega, by first | rfl | simp, rfl, hrc, by omega, HRW, HP2, HW⟩
        case measure => simp [intOf]; omega
      | true =>
        have HP2 := Aside0.mk (fun r2 (hi : Ins r o1 r2) => show SetOf r2 (regL (ops.take (x + 1))) by rw [HSN.out, hb _ hrb, if_pos rfl]; exact HS.out.put hi)
        have h34 : (o3 = true ∧ True) ∨ (o3 = false ∧ o4 = false) := by cases o3 <;> cases o4 <;> simp_all
        clear hrb hb
        rcases h34 with ⟨rfl, -⟩ | ⟨rfl, rfl⟩
        all_goals
          go_wp2_with fail
          (with_reducible refine (HIN.out _ _ HRW.out).mono ?_)
          rintro e w3 ⟨A2, r2, c2, rfl, hc2, hC2, hI2, hb3⟩
          have HW3 := Aside0.mk (below_step HW.out hb3)
          have HC2 := Aside0.mk hC2
          have HP3 := Aside0.mk (HP2.out r2 hI2)
          have hl2 : r2.length ≤ x + 1 := by have := hI2.len; omega
          clear hb3 hC2 hI2 g0 g1 g2 g3 g4 g5 g6 g7
          go_wp2
          go_roundw
          case rel => exact ⟨A2, r2, c2, x + 1, by omega, by first | rfl | simp, rfl, hc2, by omega, HC2, HP3, HW3⟩
          case measure => simp [intOf]; omega
    · obtain rfl : x = ops.length := by omega
      rw [List.take_length] at HS
      go_wp2
      go_ret
      exact ⟨A', r, c', rfl, hrc, HRW.out, HS.out, by have := HOL.out; omega, below_then HBB.out (below_size HBB.out) HW.out⟩
set_option maxHeartbeats 4000000 in
set_option maxRecDepth 100000 in
theorem pending_ref (A : Option Addr) (c : Nat) (l : List S39) (w : World) (hr : Kd.C k39 w A l.length l) (hc : l.length ≤ c) (hsz : l.length ≤ 100000) :
    Calls Try.prog 48 #[.slice A l.length c] w (RowPost (penL l (opsP l).1) l.length w) := by
  have HR := Aside0.mk hr
  clear hr
  have hol := opsP_len l
  have HO := Aside0.mk (fun (W : World) (h : Kd.C k39 W A l.length l) => ops_ref A c l W h hc (by omega))
  have HCALL := Aside0.mk (show ∀ o ∈ (opsP l).1, 0 ≤ o.f6 ∧ o.f6 < l.length from by
    unfold opsP
    cases hp : parseP l with
    | none => simp
    | some s => exact fun o ho => ⟨((ptake_inv l l.length hp).call o ho).1, ((ptake_inv l l.length hp).call o ho).2.1⟩)
  generalize (opsP l).1 = ops at HO hol HCALL ⊢
  generalize (opsP l).2 = err at HO
  have HOL := Aside0.mk hol
  go_enter Try.func48, Try.ntmps48
  go_wp2_with fail
  (with_reducible refine (HO.out _ HR.out).mono ?_)
  rintro e wb ⟨A1, c1, rfl, hC, hc1, hB⟩
  have HC := Aside0.mk hC
  have HBB := Aside0.mk hB
  clear hC hB
  have hosz : ops.length ≤ 100000 := by omega
  go_wp2
  go_loopw [3, 6] (fun v3 v6 wr => ∃ (A' : Option Addr) (r : List Int) (c' x : Nat), x ≤ ops.length ∧ v6 = .int .i64 x ∧ v3 = .slice A' r.length c' ∧ r.length ≤ c' ∧ r.length ≤ x ∧ Aside0 (Kd.C (Kd.int .i64) wr A' r.length r) ∧ Aside0 (SetOf r (penL l (ops.take x))) ∧ Aside0 (Below wb.heap.size wb wr))
    (fun _ v6 _ => ops.length - (intOf v6).toNat)
  case atStart => exact ⟨none, [], 0, 0, by omega, rfl, rfl, Nat.le_refl _, Nat.le_refl _, ⟨Kd.C_nil _ _⟩, ⟨SetOf.nil⟩, ⟨Below.refl _ _⟩⟩
  case round =>
    obtain ⟨A', r, c', x, hx, rfl, rfl, hrc, hrx, HRW, HS, HW⟩ := hrel
    by_cases hlt : x < ops.length
    · have hltb : (x : Int) < (ops.length : Int) := by omega
      have hxb : (x : Int) < 100000 := by omega
      have hx0 : (0 : Int) ≤ x := by omega
      obtain ⟨ad, eA⟩ := row_some HC.out hlt
      subst eA
      obtain ⟨g0, g1, g2, g3, g4, g5, g6, g7⟩ := at_op (Kd.C_below HC.out HW.out) x hlt
      have HSN := Aside0.mk (penL_snoc l ops hlt)
      have HIN := Aside0.mk (fun (y : Int) (W : World) (h : Kd.C (Kd.int .i64) W A' r.length r) => insert_ref A' c' r y W h hrc (by omega) HS.out.inc)
      obtain ⟨p6, hp6, hp6l⟩ : ∃ n : Nat, (opAt ops x).f6 = n ∧ n ≤ l.length := ⟨(opAt ops x).f6.toNat, by have := HCALL.out _ (opAt_mem hlt); omega, by have := HCALL.out _ (opAt_mem hlt); omega⟩
      have HCT := Aside0.mk (fun (W : World) (h : Kd.C k39 W A l.length l) => cut_any A c l p6 l.length W h hc hp6l (Nat.le_refl _) (by omega))
      have HRL := Aside0.mk (Kd.C_below HR.out (below_then HBB.out (below_size HBB.out) HW.out))
      rw [hp6] at g6
      obtain ⟨cb, hcb⟩ : ∃ cb, cutR l p6 l.length = cb := ⟨_, rfl⟩
      have HPB : Aside0 (penB l (opAt ops x) = (decide ((opAt ops x).f7 < 0) && !cb)) := ⟨by unfold penB; rw [hp6, Int.toNat_natCast, hcb]⟩
      rw [hcb] at HCT
      clear hcb hp6
      obtain ⟨o, HOo⟩ : ∃ o, Aside0 (opAt ops x = o) := ⟨_, ⟨rfl⟩⟩
      rw [HOo.out] at g0 g1 g2 g3 g4 g5 g7 HSN HPB
      obtain ⟨o0, o1, o2, o3, o4, o5, o6, o7⟩ := o
      simp only at g0 g1 g2 g3 g4 g5 g7 HSN HPB
      rw [HPB.out] at HSN
      by_cases h7 : o7 < 0
      · have h7' : decide (o7 < 0) = true := decide_eq_true h7
        rw [h7'] at HSN
        cases cb with
        | true =>
          have HP2 := Aside0.mk (show SetOf r (penL l (ops.take (x + 1))) by rw [HSN.out, if_neg (by decide)]; exact HS.out)
          go_wp2_with fail
          (with_reducible refine (HCT.out _ HRL.out).mono ?_)
          rintro e w2 ⟨rfl, hD⟩
          have HB2 := Aside0.mk hD.below
          clear hD
          have HW2 := Aside0.mk (below_step HW.out HB2.out)
          have HC2 := Aside0.mk (Kd.C_below HRW.out HB2.out)
          go_wp2
          go_roundw
          case rel => exact ⟨A', r, c', x + 1, by omega, by first | rfl | simp, rfl, hrc, by omega, HC2, HP2, HW2⟩
          case measure => simp [intOf]; omega
        | false =>
          have HP2 := Aside0.mk (fun r2 (hi : Ins r o0 r2) => show SetOf r2 (penL l (ops.take (x + 1))) by rw [HSN.out, if_pos (by decide)]; exact HS.out.put hi)
          go_wp2_with fail
          (with_reducible refine (HCT.out _ HRL.out).mono ?_)
          rintro e w2 ⟨rfl, hD⟩
          have HB2 := Aside0.mk hD.below
          clear hD
          have HW2 := Aside0.mk (below_step HW.out HB2.out)
          have HCr2 := Aside0.mk (Kd.C_below HRW.out HB2.out)
          obtain ⟨k0, -⟩ := at_op (Kd.C_below HC.out HW2.out) x hlt
          rw [HOo.out] at k0
          simp only at k0
          go_wp2_with fail
          (with_reducible refine (HIN.out _ _ HCr2.out).mono ?_)
          rintro e w3 ⟨A2, r2, c2, rfl, hc2, hC2, hI2, hb3⟩
          have HW3 := Aside0.mk (below_step HW2.out hb3)
          have HC2 := Aside0.mk hC2
          have HP3 := Aside0.mk (HP2.out r2 hI2)
          have hl2 : r2.length ≤ x + 1 := by have := hI2.len; omega
          clear hb3 hC2 hI2 g0 g1 g2 g3 g4 g5 g6 g7 k0
          go_wp2
          go_roundw
          case rel => exact ⟨A2, r2, c2, x + 1, by omega, by first | rfl | simp, rfl, hc2, by omega, HC2, HP3, HW3⟩
          case measure => simp [intOf]; omega
      · have h7' : decide (o7 < 0) = false := decide_eq_false h7
        rw [h7'] at HSN
        have HP2 := Aside0.mk (show SetOf r (penL l (ops.take (x + 1))) by rw [HSN.out, if_neg (by simp)]; exact HS.out)
        go_wp2
        go_roundw
        case rel => exact ⟨A', r, c', x + 1, by omega, by first | rfl | simp, rfl, hrc, by omega, HRW, HP2, HW⟩
        case measure => simp [intOf]; omega
    · obtain rfl : x = ops.length := by omega
      rw [List.take_length] at HS
      go_wp2
      go_ret
      exact ⟨A', r, c', rfl, hrc, HRW.out, HS.out, by have := HOL.out; omega, below_then HBB.out (below_size HBB.out) HW.out⟩
end Go.Proofs.Ytidghmgaaenihaa.Q

/-! part Iter -/
namespace Go.Proofs
open Go.Shelf
def Try.keysA_ren : Go.Shelf.Ren := ⟨fun | 7 => 76 | 10 => 100 | n => n, fun | 23 => 88 | 26 => 3 | 3 => 4 | 28 => 125 | 0 => 0 | 27 => 124 | 33 => 154 | 4 => 4 | n => n, fun | n => n⟩
theorem Try.keysA : Go.Proofs.SlLaysZI.n7 Try.prog Try.keysA_ren := {
  mixed := by kernel_rfl
  f7 := ⟨Try.f76.name, by decide, Try.func76.trans (congrArg some (by kernel_rfl))⟩
  f10 := ⟨Try.f100.name, by decide, Try.func100.trans (congrArg some (by kernel_rfl))⟩
  t0 := Try.underlying0
  a0 := Try.isAgg0
  z0 := Try.sizeOf0
  v0 := Try.zeroValue0
  t4 := Try.underlying4
  a4 := Try.isAgg4
  z4 := Try.sizeOf4
  v4 := Try.zeroValue4
  t23 := Try.underlying88
  a23 := Try.isAgg88
  z23 := Try.sizeOf88
  v23 := Try.zeroValue88
  t26 := Try.underlying3
  a26 := Try.isAgg3
  z26 := Try.sizeOf3
  v26 := Try.zeroValue3
  t27 := Try.underlying124
  a27 := Try.isAgg124
  z27 := Try.sizeOf124
  v27 := Try.zeroValue124
  t28 := Try.underlying125
  a28 := Try.isAgg125
  z28 := Try.sizeOf125
  v28 := Try.zeroValue125
  t33 := Try.underlying154
  a33 := Try.isAgg154
  z33 := Try.sizeOf154
  v33 := Try.zeroValue154 }
def Try.sortedA_ren : Go.Shelf.Ren := ⟨fun | 6 => 75 | 8 => 99 | 9 => 78 | 11 => 115 | 13 => 102 | 12 => 101 | 23 => 125 | 24 => 126 | 14 => 116 | 15 => 117 | 16 => 118 | 17 => 119 | 18 => 120 | 19 => 121 | 20 => 122 | 21 => 123 | 22 => 124 | 25 => 132 | 26 => 133 | 27 => 134 | 28 => 135 | 29 => 136 | 30 => 137 | 31 => 140 | n => n, fun | 26 => 3 | 28 => 125 | 24 => 40 | 0 => 0 | 3 => 3 | 37 => 157 | 48 => 189 | 50 => 191 | 4 => 4 | 40 => 182 | 39 => 181 | 45 => 186 | 5 => 5 | 9 => 9 | 51 => 195 | 55 => 199 | 57 => 202 | 58 => 203 | 33 => 154 | n => n, fun | n => n⟩
theorem Try.sortedA : Go.Proofs.SlLaysZI.n6 Try.prog Try.sortedA_ren := {
  mixed := by kernel_rfl
  f6 := ⟨Try.f75.name, by decide, Try.func75.trans (congrArg some (by kernel_rfl))⟩
  f8 := ⟨Try.f99.name, by decide, Try.func99.trans (congrArg some (by kernel_rfl))⟩
  f11 := ⟨Try.f115.name, by decide, Try.func115.trans (congrArg some (by kernel_rfl))⟩
  t0 := Try.underlying0
  a0 := Try.isAgg0
  z0 := Try.sizeOf0
  v0 := Try.zeroValue0
  t24 := Try.underlying40
  a24 := Try.isAgg40
  z24 := Try.sizeOf40
  v24 := Try.zeroValue40
  t26 := Try.underlying3
  a26 := Try.isAgg3
  z26 := Try.sizeOf3
  v26 := Try.zeroValue3
  t28 := Try.underlying125
  a28 := Try.isAgg125
  z28 := Try.sizeOf125
  v28 := Try.zeroValue125
  i26 := by kernel_rfl }
end Go.Proofs

/-! part Shelf -/
namespace Go.Proofs
open Go.Shelf
def Try.lays189_ren : Go.Shelf.Ren := ⟨fun | 189 => 78 | 125 => 102 | 257 => 101 | 128 => 125 | 129 => 126 | 294 => 116 | 295 => 117 | 296 => 118 | 297 => 119 | 298 => 120 | 299 => 121 | 216 => 122 | 300 => 123 | 301 => 124 | 328 => 132 | 329 => 133 | 330 => 134 | 331 => 135 | 332 => 136 | 215 => 137 | 343 => 140 | n => n, fun | 28 => 40 | 3 => 3 | 46 => 157 | 0 => 0 | 51 => 189 | 53 => 191 | 4 => 4 | 183 => 182 | 182 => 181 | 131 => 186 | 5 => 5 | 9 => 9 | 218 => 195 | 222 => 199 | 228 => 202 | 229 => 203 | n => n, fun | n => n⟩
theorem Try.lays189 : Go.Proofs.Lays.n189 Try.prog Try.lays189_ren := {
  mixed := by kernel_rfl
  f125 := Try.func102.trans (congrArg some (by kernel_rfl))
  f128 := Try.func125.trans (congrArg some (by kernel_rfl))
  f129 := Try.func126.trans (congrArg some (by kernel_rfl))
  f189 := Try.func78.trans (congrArg some (by kernel_rfl))
  f215 := Try.func137.trans (congrArg some (by kernel_rfl))
  f216 := Try.func122.trans (congrArg some (by kernel_rfl))
  f257 := Try.func101.trans (congrArg some (by kernel_rfl))
  f294 := Try.func116.trans (congrArg some (by kernel_rfl))
  f295 := Try.func117.trans (congrArg some (by kernel_rfl))
  f296 := Try.func118.trans (congrArg some (by kernel_rfl))
  f297 := Try.func119.trans (congrArg some (by kernel_rfl))
  f298 := Try.func120.trans (congrArg some (by kernel_rfl))
  f299 := Try.func121.trans (congrArg some (by kernel_rfl))
  f300 := Try.func123.trans (congrArg some (by kernel_rfl))
  f301 := Try.func124.trans (congrArg some (by kernel_rfl))
  f328 := Try.func132.trans (congrArg some (by kernel_rfl))
  f329 := Try.func133.trans (congrArg some (by kernel_rfl))
  f330 := Try.func134.trans (congrArg some (by kernel_rfl))
  f331 := Try.func135.trans (congrArg some (by kernel_rfl))
  f332 := Try.func136.trans (congrArg some (by kernel_rfl))
  f343 := Try.func140.trans (congrArg some (by kernel_rfl))
  t0 := Try.underlying0
  a0 := Try.isAgg0
  z0 := Try.sizeOf0
  v0 := Try.zeroValue0
  t3 := Try.underlying3
  a3 := Try.isAgg3
  z3 := Try.sizeOf3
  v3 := Try.zeroValue3
  t4 := Try.underlying4
  a4 := Try.isAgg4
  z4 := Try.sizeOf4
  v4 := Try.zeroValue4
  t5 := Try.underlying5
  a5 := Try.isAgg5
  z5 := Try.sizeOf5
  v5 := Try.zeroValue5
  t9 := Try.underlying9
  a9 := Try.isAgg9
  z9 := Try.sizeOf9
  v9 := Try.zeroValue9
  t28 := Try.underlying40
  a28 := Try.isAgg40
  z28 := Try.sizeOf40
  v28 := Try.zeroValue40
  t46 := Try.underlying157
  a46 := Try.isAgg157
  z46 := Try.sizeOf157
  v46 := Try.zeroValue157
  t51 := Try.underlying189
  a51 := Try.isAgg189
  z51 := Try.sizeOf189
  v51 := Try.zeroValue189
  t53 := Try.underlying191
  a53 := Try.isAgg191
  z53 := Try.sizeOf191
  v53 := Try.zeroValue191
  t131 := Try.underlying186
  a131 := Try.isAgg186
  z131 := Try.sizeOf186
  v131 := Try.zeroValue186
  t182 := Try.underlying181
  a182 := Try.isAgg181
  z182 := Try.sizeOf181
  v182 := Try.zeroValue181
  t183 := Try.underlying182
  a183 := Try.isAgg182
  z183 := Try.sizeOf182
  v183 := Try.zeroValue182
  t218 := Try.underlying195
  a218 := Try.isAgg195
  z218 := Try.sizeOf195
  v218 := Try.zeroValue195
  t222 := Try.underlying199
  a222 := Try.isAgg199
  z222 := Try.sizeOf199
  v222 := Try.zeroValue199
  t228 := Try.underlying202
  a228 := Try.isAgg202
  z228 := Try.sizeOf202
  v228 := Try.zeroValue202
  t229 := Try.underlying203
  a229 := Try.isAgg203
  z229 := Try.sizeOf203
  v229 := Try.zeroValue203 }
open Go.Sort Go.RowKit in
theorem Try.slices_Sort_int (blk off cap : Nat) (zs : List Int) (w : World) (hH : Holds (Value.int .i64) w blk off zs.toArray) (hblk : blk < w.heap.size) (hsz : zs.length < 4611686018427387904) :
    Calls Try.prog 78 #[.slice (some ⟨blk, off, none⟩) zs.length cap] w fun e w' =>
      e = .returned (.tuple #[]) ∧ ∃ n os, w' = grow (putRow (Value.int .i64) (Sort.ahead w n) blk off (zs.mergeSort fun x y => decide (x ≤ y)).toArray) os := Any.slices_Sort_int Try.lays189 blk off cap zs w hH hblk hsz
open Go.RowKit Go.Sort in
/-- .. and plain. (LAID: no walk: one application.) -/
theorem Try.slices_Sort_int_none (p : Option Addr) (cap : Nat) (w : World) :
    Calls Try.prog 78 #[.slice p 0 cap] w fun e w' => e = .returned (.tuple #[]) ∧ w' = w := Any.slices_Sort_int_none Try.lays189 p cap w
end Go.Proofs
