/- The trace of package durable in memory, and its methods source, certain, final, judge. -/
import Derived.Test.YtidghmgaaenihaaHMap2
import Derived.Test.YtidghmgaaenihaaQ54
namespace Go.Proofs.Ytidghmgaaenihaa.Q
open Go.RowKit Go.Proofs.YtidghmgaaenihaaW.PrintWords Go.Proofs.YtidghmgaaenihaaW.PrintLast Go.Proofs.YtidghmgaaenihaaW.PrintMore
set_option linter.unusedVariables false
set_option linter.unusedSimpArgs false

def isSrc (r v : Int) (o : S60) : Bool := o.f3 && (o.f1 == r && o.f2 == v)
/-- The place of the source. -/
def srcIx (ops : List S60) (r v : Int) : Option Nat := ops.findIdx? (isSrc r v)
def ptrAt (A : Option Addr) (i : Nat) : Option Addr := A.map (·.add (i * 8))
def wents (A : Option Addr) (ops : List S60) : Nat → List ((Int × Int) × Value)
  | 0 => []
  | k + 1 => if (opAt ops k).f3 = true then wents A ops k ++ [(((opAt ops k).f1, (opAt ops k).f2), .pointer (ptrAt A k))] else wents A ops k

theorem look2_snoc (ks : List ((Int × Int) × Value)) (p : (Int × Int) × Value) (r v : Int) :
    look2 (ks ++ [p]) r v = match look2 ks r v with | some x => some x | none => if (p.1.1 == r && p.1.2 == v) = true then some p.2 else none := by
  unfold look2
  rw [List.find?_append]
  cases h : ks.find? (fun p => p.1.1 == r && p.1.2 == v) with
  | some x => simp
  | none =>
    simp only [Option.none_or, Option.map_none, List.find?_cons, List.find?_nil]
    cases (p.1.1 == r && p.1.2 == v) <;> simp
theorem opAt_get {ops : List S60} {k : Nat} (h : k < ops.length) : opAt ops k = ops[k] := by simp [opAt, List.getD_eq_getElem?_getD, h]
theorem look_wents (A : Option Addr) (ops : List S60) (r v : Int) : ∀ k, k ≤ ops.length → look2 (wents A ops k) r v = (srcIx (ops.take k) r v).map (fun i => .pointer (ptrAt A i))
  | 0, _ => by simp [wents, look2, srcIx]
  | k + 1, h => by
    have ih := look_wents A ops r v k (by omega)
    have e : srcIx (ops.take (k + 1)) r v = match srcIx (ops.take k) r v with | some i => some i | none => if isSrc r v (opAt ops k) = true then some k else none := by
      unfold srcIx
      rw [List.take_succ_eq_append_getElem (by omega), List.findIdx?_append]
      cases hq : (ops.take k).findIdx? (isSrc r v) with
      | some i => simp
      | none =>
        rw [opAt_get (by omega)]
        simp only [Option.none_or, List.findIdx?_cons, List.findIdx?_nil, List.length_take, Nat.min_eq_left (show k ≤ ops.length by omega)]
        cases isSrc r v (ops[k]) <;> simp
    rw [e, wents]
    split
    · rename_i hw
      rw [look2_snoc, ih]
      cases hq : srcIx (ops.take k) r v with
      | some i => simp
      | none =>
        simp only [Option.map_none]
        have : isSrc r v (opAt ops k) = ((opAt ops k).f1 == r && (opAt ops k).f2 == v) := by simp [isSrc, hw]
        rw [this]
        cases ((opAt ops k).f1 == r && (opAt ops k).f2 == v) <;> simp
    · rename_i hw
      rw [ih]
      cases hq : srcIx (ops.take k) r v with
      | some i => simp
      | none =>
        have : isSrc r v (opAt ops k) = false := by simp [isSrc, hw]
        simp [this]
theorem src_lt {ops : List S60} {r v : Int} {i : Nat} (h : srcIx ops r v = some i) : i < ops.length ∧ isSrc r v (opAt ops i) = true := by
  obtain ⟨h1, h2, _⟩ := List.findIdx?_eq_some_iff_getElem.1 h
  exact ⟨h1, by rw [opAt_get h1]; exact h2⟩

/-- A trace in memory: the row of the operations, the map of the writes (block B1), that of the survivors (block B2). -/
structure Trace (w : World) (g : Nat) (A : Option Addr) (c : Nat) (ops : List S60) (B1 B2 : Nat) (sv : List (Int × Bool)) : Prop where
  row : Kd.C k60 w A ops.length ops
  cap : ops.length ≤ c
  size : ops.length ≤ 1000000
  blk : w.heap[g]? = some (.cells #[.slice A ops.length c, .map (some B1), .map (some B2)] 90 (0, 0))
  writes : w.heap[B1]? = some (.map (ents2 (wents A ops ops.length)).toArray (wents A ops ops.length).length)
  surv : w.heap[B2]? = some (.map (entsB sv).toArray sv.length)
  ids : sv.Pairwise (fun a b => a.1 ≠ b.1)
section
variable {w w1 : World} {g : Nat} {A : Option Addr} {c : Nat} {ops : List S60} {B1 B2 : Nat} {sv : List (Int × Bool)}
theorem Trace.below (h : Trace w g A c ops B1 B2 sv) (hb : Below w.heap.size w w1) : Trace w1 g A c ops B1 B2 sv :=
  ⟨Kd.C_below h.row hb, h.cap, h.size, blk_old h.blk hb, blk_old h.writes hb, blk_old h.surv hb, h.ids⟩
def srcP (A : Option Addr) (ops : List S60) (r v : Int) : Option Addr := (srcIx ops r v).bind (ptrAt A)
theorem Trace.look (h : Trace w g A c ops B1 B2 sv) (r v : Int) :
    (Instr.lookup 87 (.map (some B1)) (.agg #[.int .i64 r, .int .i64 v]) false).run Try.prog w = .ok (.pointer (srcP A ops r v)) w := by
  have := look2_run w h.writes r v
  rw [look_wents A ops r v _ (Nat.le_refl _), List.take_length] at this
  have e : ((srcIx ops r v).map (fun i => Value.pointer (ptrAt A i))).getD (.pointer none) = .pointer (srcP A ops r v) := by
    unfold srcP; cases srcIx ops r v <;> rfl
  rw [e] at this
  exact this
end

/-- All worlds behind w: its blocks as they were, and perhaps new ones. -/
def After (w : World) : Type := { W : World // Below w.heap.size w W }
instance (w : World) : Nonempty (After w) := ⟨⟨w, Below.refl _ _⟩⟩
/-- A region that draws its order and reads old memory alone; its calls make memory. -/
theorem region_after {P : Program} {id : Nat} {Q : Exit → Act → World → Prop} {a : Act} {w : World} {l : List Oper} (hm : P.follows .mixedOrders = true) (hB : Region.lexB .any l.toArray = true)
    (h : wpQuiet P l.toArray (fun W => ∃ u : After w, W = u.1) (fun a' => ∀ W, (∃ u : After w, W = u.1) → Q .normal a' W) l a) : (Code.region id l.toArray true).wp P Q a w :=
  wp_region_quiet (C := fun W => ∃ u : After w, W = u.1) hm hB ⟨⟨w.drew, below_drew (Below.refl _ _)⟩, rfl⟩ (by simpa using h)
theorem after_call {P : Program} {f : FuncId} {args : Array Value} {w : World} {u : After w} {v : Value} (h : Calls P f args u.1 fun e w' => e = .returned v ∧ Below u.1.heap.size u.1 w') : Calls P f args u.1 fun e w'' => e = .returned v ∧ ∃ u' : After w, w'' = u'.1 :=
  h.mono fun _ w' ⟨he, hb⟩ => ⟨he, ⟨w', below_step u.2 hb⟩, rfl⟩
theorem after_cell {w : World} {a : Addr} {v : Value} (h : w.cell? a = some v) : ∀ u : After w, u.1.cell? a = some v := fun u => (u.2.cell (World.block_lt_of_cell? w _ h)).trans h

set_option maxHeartbeats 1000000 in
set_option maxRecDepth 100000 in
theorem source_any (r0 r1 r2 : Int) (r3 r4 : Bool) (r5 r6 r7 : Int) (w : World) {g : Nat} {A : Option Addr} {c : Nat} {ops : List S60} {B1 B2 : Nat} {sv : List (Int × Bool)} (h : Trace w g A c ops B1 B2 sv) :
    Calls Try.prog 87 #[.pointer (some ⟨g, 0, none⟩), .agg #[.int .i64 r0, .int .i64 r1, .int .i64 r2, .bool r3, .bool r4, .int .i64 r5, .int .i64 r6, .int .i64 r7]] w fun e w' => e = .returned (.pointer (srcP A ops r1 r2)) ∧ Below w.heap.size w w' := by
  have HT := Aside0.mk h
  have hg : g < w.heap.size := (Array.getElem?_eq_some_iff.1 h.blk).1
  have c1 : w.cell? ⟨g, 1, none⟩ = some (.map (some B1)) := (blk_cell h.blk 1).trans rfl
  have hl : ∀ n, (Instr.lookup 87 (.map (some B1)) (.agg #[.int .i64 r1, .int .i64 r2]) false).run Try.prog ((w.alloc (.cells #[.int .i64 r0, .int .i64 r1, .int .i64 r2, .bool r3, .bool r4, .int .i64 r5, .int .i64 r6, .int .i64 r7] 60)).drewN n) = .ok (.pointer (srcP A ops r1 r2)) ((w.alloc (.cells #[.int .i64 r0, .int .i64 r1, .int .i64 r2, .bool r3, .bool r4, .int .i64 r5, .int .i64 r6, .int .i64 r7] 60)).drewN n) :=
    fun n => Trace.look (h.below (pw_below_drewN (below_alloc (Below.refl _ _) _) n)) r1 r2
  clear h
  go_enter Try.func87, Try.ntmps87
  go_wp2
  go_quiet (fail)
  go_wp2
  go_ret
  exact ⟨rfl, by repeat (first | exact Below.refl _ _ | apply below_alloc | apply pw_below_drewN)⟩
end Go.Proofs.Ytidghmgaaenihaa.Q
