/- Laws on a map whose keys are ints and whose entries are known one by one: a look-up, a store at a new key. -/
import Derived.Maps.OwnOps
import Derived.Test.YtidghmgaaenihaaHPlain
namespace Go.Proofs.Ytidghmgaaenihaa.Q
open Go.RowKit Go.Proofs.YtidghmgaaenihaaW.PrintWords Go.Proofs.YtidghmgaaenihaaW.PrintLast Go.Proofs.YtidghmgaaenihaaW.PrintMore
open Go.MapKept
set_option linter.unusedVariables false
set_option linter.unusedSimpArgs false

section
variable {P : Program} {T K E : TypeId} {w : World} {B : Nat} {es : Array MapEntry} {clock : Nat} {id : Int} {q : IntKind}

theorem look_int (hT : P.underlying T = some (.map K E)) (hK : P.underlying K = some (.int q)) {z : Value} (hz : (zeroValue E).run P w = .ok z w)
    (hb : w.heap[B]? = some (.map es clock)) (hk : ∀ x ∈ es.toList, IsKey (.int q) x.key) (c : Bool) :
    ((Instr.lookup T (.map (some B)) (.int q id) c).run P w = .ok (if c then .tuple #[z, .bool false] else z) w ∧ ∀ x ∈ es.toList, x.key ≠ .int q id) ∨
    ∃ (j : Nat) (e : MapEntry), es.toList[j]? = some e ∧ e.key = .int q id ∧ (Instr.lookup T (.map (some B)) (.int q id) c).run P w = .ok (if c then .tuple #[e.val, .bool true] else e.val) w := by
  have k0 : IsKey (.int q) (.int q id) := rfl
  rcases findNow_spec k0 es.toList 0 hk with ⟨h1, h2⟩ | ⟨j, e, h1, h2, h3⟩
  · refine .inl ⟨?_, h2⟩
    simp [Instr.lookup, run_underlying hT, MapKept.run_getObj_map hb, run_checkKey hK k0 _ 9999, run_findKey hK h1, hz, Result.andThen]
  · refine .inr ⟨j, e, h2, h3, ?_⟩
    simp [Instr.lookup, run_underlying hT, MapKept.run_getObj_map hb, run_checkKey hK k0 _ 9999, run_findKey hK (by simpa using h1), Result.andThen]

theorem store_int_new (hT : P.underlying T = some (.map K E)) (hK : P.underlying K = some (.int q)) {v : Value}
    (hb : w.heap[B]? = some (.map es clock)) (hk : ∀ x ∈ es.toList, IsKey (.int q) x.key) (hn : ∀ x ∈ es.toList, x.key ≠ .int q id) :
    (Instr.mapUpdate T (.map (some B)) (.int q id) v).run P w = .ok () (ChangeMaps.setBlock w B (.map (es.push ⟨.int q id, v, clock⟩) (clock + 1))) := by
  have k0 : IsKey (.int q) (.int q id) := rfl
  rcases findNow_spec k0 es.toList 0 hk with ⟨h1, h2⟩ | ⟨j, e, h1, h2, h3⟩
  · simp [Instr.mapUpdate, run_underlying hT, MapKept.run_getObj_map hb, run_checkKey hK k0 _ 9999, run_findKey hK h1, MapKept.run_setObj_map _ hb, Result.andThen, ChangeMaps.setBlock]
  · exact absurd h3 (hn e (List.mem_of_getElem? h2))

variable {ops : Array Oper} {rest : List Oper} {o : Oper} {a : Act} {Q : Exit → Act → World → Prop}
/-- 'm[k]' at the operation. -/
theorem at_look (hgd : o.guard = none) (m x : Operand) (c : Bool) (hop : o.op = Op.lookup T m x c) (hT : P.underlying T = some (.map K E)) (hK : P.underlying K = some (.int q)) {z : Value} (hz : (zeroValue E).run P w = .ok z w)
    (hm : a.eval m = .map (some B)) (hx : a.eval x = .int q id) (hb : w.heap[B]? = some (.map es clock)) (hk : ∀ x ∈ es.toList, IsKey (.int q) x.key)
    (h0 : (∀ x ∈ es.toList, x.key ≠ .int q id) → wpList P ops Q rest (a.put o.dst (if c then .tuple #[z, .bool false] else z)) w)
    (h1 : ∀ (j : Nat) (e : MapEntry), es.toList[j]? = some e → e.key = .int q id → wpList P ops Q rest (a.put o.dst (if c then .tuple #[e.val, .bool true] else e.val)) w) :
    wpList P ops Q (o :: rest) a w := by
  refine wpList_plain hgd fun K' hK' => ?_
  unfold Oper.wp
  rcases look_int (id := id) hT hK hz hb hk c with ⟨hr, hn⟩ | ⟨j, e, he, hke, hr⟩
  · simp only [execOp, hop, hm, hx]
    simp [hr, Result.andThen]
    exact hK' _ _ (h0 hn)
  · simp only [execOp, hop, hm, hx]
    simp [hr, Result.andThen]
    exact hK' _ _ (h1 j e he hke)
/-- 'm[k] = v' at a new key, at the operation. -/
theorem at_store (hgd : o.guard = none) (m x v : Operand) (hop : o.op = Op.mapUpdate T m x v) (hT : P.underlying T = some (.map K E)) (hK : P.underlying K = some (.int q))
    (hm : a.eval m = .map (some B)) (hx : a.eval x = .int q id) {u : Value} (hv : a.eval v = u) (hb : w.heap[B]? = some (.map es clock)) (hk : ∀ x ∈ es.toList, IsKey (.int q) x.key) (hn : ∀ x ∈ es.toList, x.key ≠ .int q id)
    (h1 : ∀ w', w' = ChangeMaps.setBlock w B (.map (es.push ⟨.int q id, u, clock⟩) (clock + 1)) → wpList P ops Q rest (a.put o.dst undef) w') :
    wpList P ops Q (o :: rest) a w := by
  refine wpList_plain hgd fun K' hK' => ?_
  unfold Oper.wp
  simp only [execOp, hop, hm, hx, hv]
  simp [store_int_new hT hK hb hk hn, Result.andThen]
  exact hK' _ _ (h1 _ rfl)
end

/-! The operations of a parse in memory -/
/-- The cells of an operation. -/
def opCells (o : S60) : Array Value := #[.int .i64 o.f0, .int .i64 o.f1, .int .i64 o.f2, .bool o.f3, .bool o.f4, .int .i64 o.f5, .int .i64 o.f6, .int .i64 o.f7]
def entOf (ops : List S60) (bs : List Nat) : List MapEntry := List.zipWith (fun (p : S60 × Nat) i => ⟨.int .i64 p.1.f0, .pointer (some ⟨p.2, 0, none⟩), i⟩) (ops.zip bs) (List.range ops.length)

theorem entOf_at {ops : List S60} {bs : List Nat} (hl : bs.length = ops.length) {j : Nat} {e : MapEntry} (h : (entOf ops bs)[j]? = some e) :
    ∃ b, j < ops.length ∧ bs[j]? = some b ∧ e.key = .int .i64 (opAt ops j).f0 ∧ e.val = .pointer (some ⟨b, 0, none⟩) := by
  unfold entOf at h
  obtain ⟨hj, he⟩ := List.getElem?_eq_some_iff.1 h
  simp only [List.length_zipWith, List.length_zip, List.length_range] at hj
  have hj1 : j < ops.length := by omega
  have hj2 : j < bs.length := by omega
  simp only [List.getElem_zipWith, List.getElem_zip, List.getElem_range] at he
  subst he
  exact ⟨bs[j], hj1, by simp [hj2], by simp [opAt, List.getD_eq_getElem?_getD, hj1], rfl⟩
theorem entOf_mem {ops : List S60} {bs : List Nat} (hl : bs.length = ops.length) {e : MapEntry} (h : e ∈ entOf ops bs) : ∃ o ∈ ops, ∃ b, e.key = .int .i64 o.f0 ∧ e.val = .pointer (some ⟨b, 0, none⟩) := by
  obtain ⟨j, hj⟩ := List.getElem?_of_mem h
  obtain ⟨b, h1, h2, h3, h4⟩ := entOf_at hl hj
  refine ⟨opAt ops j, ?_, b, h3, h4⟩
  have e : opAt ops j = ops[j] := by simp [opAt, List.getD_eq_getElem?_getD, List.getElem?_eq_getElem h1]
  rw [e]; exact List.getElem_mem h1
theorem entOf_has {ops : List S60} {bs : List Nat} (hl : bs.length = ops.length) {j : Nat} (hj : j < ops.length) : ∃ e ∈ entOf ops bs, e.key = .int .i64 (opAt ops j).f0 := by
  have hlt : j < (entOf ops bs).length := by simp [entOf]; omega
  obtain ⟨b, h1, h2, h3, h4⟩ := entOf_at hl (List.getElem?_eq_getElem hlt)
  exact ⟨_, List.getElem_mem hlt, h3⟩
theorem entOf_key {ops : List S60} {bs : List Nat} (hl : bs.length = ops.length) : ∀ x ∈ (entOf ops bs).toArray.toList, IsKey (.int .i64) x.key := by
  intro x hx
  obtain ⟨o, _, b, hk, _⟩ := entOf_mem hl (by simpa using hx)
  rw [hk]; rfl
theorem entOf_snoc (ops : List S60) (bs : List Nat) (hl : bs.length = ops.length) (o : S60) (b : Nat) :
    entOf (ops ++ [o]) (bs ++ [b]) = entOf ops bs ++ [⟨.int .i64 o.f0, .pointer (some ⟨b, 0, none⟩), ops.length⟩] := by
  unfold entOf
  rw [List.zip_append (by omega), List.length_append, List.length_singleton, List.range_succ, List.zipWith_append (by simp; omega)]
  rfl
theorem entOf_set (ops : List S60) (bs : List Nat) (j : Nat) (o : S60) (h : o.f0 = (opAt ops j).f0) : entOf (ops.set j o) bs = entOf ops bs := by
  unfold entOf
  rw [List.length_set]
  apply List.ext_getElem
  · simp
  · intro i h1 h2
    simp only [List.getElem_zipWith, List.getElem_zip, List.getElem_range, List.getElem_set]
    split
    · rename_i q; subst q
      have hj : j < ops.length := by simp at h2; omega
      rw [h]; simp [opAt, List.getD_eq_getElem?_getD, hj]
    · rfl

/-- The map of the operations: each entry leads to a block of its own. -/
structure MapOps (w : World) (base B : Nat) (ops : List S60) (bs : List Nat) : Prop where
  len : bs.length = ops.length
  blk : w.heap[B]? = some (.map (entOf ops bs).toArray ops.length)
  cells : ∀ (j b : Nat), bs[j]? = some b → w.heap[b]? = some (.cells (opCells (opAt ops j)) 60 (0, 0))
  own : base ≤ B ∧ ∀ b ∈ bs, base ≤ b
  inj : bs.Nodup

section
variable {w w1 : World} {base B : Nat} {ops : List S60} {bs : List Nat}
theorem MapOps.move (h : MapOps w base B ops bs) (hk : ∀ k o, w.heap[k]? = some o → (k = B ∨ k ∈ bs) → w1.heap[k]? = some o) : MapOps w1 base B ops bs :=
  ⟨h.len, hk _ _ h.blk (.inl rfl), fun j b hb => hk _ _ (h.cells j b hb) (.inr (List.mem_of_getElem? hb)), h.own, h.inj⟩
theorem MapOps.below (h : MapOps w base B ops bs) (hb : Below w.heap.size w w1) : MapOps w1 base B ops bs :=
  h.move (fun k o hk _ => (hb.block k (Array.getElem?_eq_some_iff.1 hk).1).trans hk)
/-- Another row was written. -/
theorem MapOps.grown (h : MapOps w base B ops bs) {row : Option Nat} (hg : w.grownBy w1 row) (hr : ∀ k cs t, row = some k → w.heap[k]? = some (.cells cs t (0, 0)) → t ≠ 60) (hr2 : ∀ k, row = some k → ∃ cs t, w.heap[k]? = some (.cells cs t (0, 0))) : MapOps w1 base B ops bs := by
  refine h.move (fun k o hk hB => (hg.block k (Array.getElem?_eq_some_iff.1 hk).1 ?_).trans hk)
  intro e
  obtain ⟨cs, t, hc⟩ := hr2 k e.symm
  rcases hB with rfl | hB
  · rw [h.blk] at hc; cases hc
  · obtain ⟨j, hj⟩ := List.getElem?_of_mem hB
    have h1 := h.cells j k hj
    rw [h1] at hc
    cases hc
    exact hr k _ _ e.symm h1 rfl
theorem MapOps.lt (h : MapOps w base B ops bs) : B < w.heap.size ∧ ∀ b ∈ bs, b < w.heap.size := by
  refine ⟨(Array.getElem?_eq_some_iff.1 h.blk).1, fun b hb => ?_⟩
  obtain ⟨j, hj⟩ := List.getElem?_of_mem hb
  exact (Array.getElem?_eq_some_iff.1 (h.cells j b hj)).1
theorem MapOps.ne (h : MapOps w base B ops bs) : B ∉ bs := by
  intro hb
  obtain ⟨j, hj⟩ := List.getElem?_of_mem hb
  have := h.cells j B hj
  rw [h.blk] at this; cases this

theorem heap_setBlock {w : World} {B : Nat} {o : Obj} (k : Nat) (hB : B < w.heap.size) : (ChangeMaps.setBlock w B o).heap[k]? = if k = B then some o else w.heap[k]? := by
  unfold ChangeMaps.setBlock
  simp only [Array.getElem?_setIfInBounds]
  by_cases e : B = k
  · subst e; simp [hB]
  · simp [e, Ne.symm e]

/-- A new operation, in the last block. -/
theorem MapOps.push (h : MapOps w base B ops bs) {o : S60} {b : Nat} (hb : w.heap[b]? = some (.cells (opCells o) 60 (0, 0))) (hbs : b ∉ bs) (hbb : base ≤ b)
    (hw : w1 = ChangeMaps.setBlock w B (.map ((entOf ops bs).toArray.push ⟨.int .i64 o.f0, .pointer (some ⟨b, 0, none⟩), ops.length⟩) (ops.length + 1))) :
    MapOps w1 base B (ops ++ [o]) (bs ++ [b]) := by
  subst hw
  have hl := h.lt
  have hBb : b ≠ B := by intro e; subst e; rw [h.blk] at hb; cases hb
  refine ⟨by simp [h.len], ?_, ?_, ⟨h.own.1, ?_⟩, ?_⟩
  · rw [heap_setBlock _ hl.1, if_pos rfl, entOf_snoc _ _ h.len]; simp
  · intro j c hc
    rcases Nat.lt_or_ge j bs.length with hj | hj
    · rw [List.getElem?_append_left hj] at hc
      have hcb : c ≠ B := fun e => h.ne (e ▸ List.mem_of_getElem? hc)
      rw [heap_setBlock _ hl.1, if_neg hcb, h.cells j c hc]
      simp [opAt, List.getD_eq_getElem?_getD, List.getElem?_append_left (by rw [← h.len]; exact hj : j < ops.length)]
    · rw [List.getElem?_append_right hj] at hc
      have hj0 : j - bs.length = 0 := by
        rcases Nat.eq_zero_or_pos (j - bs.length) with q | q
        · exact q
        · rw [List.getElem?_eq_none (by simp; omega)] at hc; cases hc
      rw [hj0] at hc
      cases hc
      rw [heap_setBlock _ hl.1, if_neg hBb, hb]
      have : j = ops.length := by rw [← h.len]; omega
      subst this
      simp [opAt, List.getD_eq_getElem?_getD]
  · intro c hc
    simp only [List.mem_append, List.mem_singleton] at hc
    rcases hc with hc | rfl
    · exact h.own.2 c hc
    · exact hbb
  · rw [List.nodup_append]
    exact ⟨h.inj, by simp, fun a ha c hc => by simp at hc; subst hc; intro e; subst e; exact hbs ha⟩

/-- An operation's cells are turned. -/
theorem MapOps.turn (h : MapOps w base B ops bs) {j b : Nat} {o : S60} (hj : bs[j]? = some b) (ho : o.f0 = (opAt ops j).f0) (hb : w1.heap[b]? = some (.cells (opCells o) 60 (0, 0))) (hk : ∀ k, k ≠ b → w1.heap[k]? = w.heap[k]?) :
    MapOps w1 base B (ops.set j o) bs := by
  have hjl : j < ops.length := by rw [← h.len]; exact (List.getElem?_eq_some_iff.1 hj).1
  refine ⟨by simp [h.len], ?_, ?_, h.own, h.inj⟩
  · rw [hk B (fun e => h.ne (e ▸ List.mem_of_getElem? hj)), h.blk, entOf_set _ _ _ _ ho]; simp
  · intro i c hc
    by_cases e : i = j
    · subst e
      rw [hj] at hc; cases hc
      rw [hb]; simp [opAt, List.getD_eq_getElem?_getD, hjl]
    · have hcb : c ≠ b := by
        intro q; subst q
        obtain ⟨hi1, hi2⟩ := List.getElem?_eq_some_iff.1 hc
        obtain ⟨hj1, hj2⟩ := List.getElem?_eq_some_iff.1 hj
        exact e ((List.getElem_inj h.inj).1 (hi2.trans hj2.symm))
      rw [hk c hcb, h.cells i c hc]
      simp [opAt, List.getD_eq_getElem?_getD, Ne.symm e]
end
end Go.Proofs.Ytidghmgaaenihaa.Q
