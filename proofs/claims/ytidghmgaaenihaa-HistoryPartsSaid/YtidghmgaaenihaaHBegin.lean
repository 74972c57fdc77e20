/- The Go function durable.begin lays the trace of a traceable history. -/
import Derived.Test.YtidghmgaaenihaaHJudge2
namespace Go.Proofs.Ytidghmgaaenihaa.Q
open Go.RowKit Go.Proofs.YtidghmgaaenihaaW.PrintWords Go.Proofs.YtidghmgaaenihaaW.PrintLast Go.Proofs.YtidghmgaaenihaaW.PrintMore
set_option linter.unusedVariables false
set_option linter.unusedSimpArgs false

/-- Is this write as it should be behind the operations before it? -/
def okAt (ops : List S60) (k : Nat) : Bool := !(opAt ops k).f3 || (decide (1 ≤ (opAt ops k).f2) && (srcIx (ops.take k) (opAt ops k).f1 (opAt ops k).f2).isNone)
def okW (ops : List S60) : Nat → Bool
  | 0 => true
  | k + 1 => okW ops k && okAt ops k
def survP (ops : List S60) : Nat → List (Int × Bool)
  | 0 => []
  | k + 1 => if (opAt ops k).f3 = true then survP ops k ++ [((opAt ops k).f0, certainB ops (opAt ops k))] else survP ops k
def beginP (l : List S39) : Option (List S60) := match parseP l with | none => none | some s => if okW s.1 s.1.length = true then some s.1 else none

theorem okW_none {ops : List S60} {k : Nat} (h : okW ops k = false) : ∀ d, okW ops (k + d) = false
  | 0 => h
  | d + 1 => by rw [← Nat.add_assoc, okW, okW_none h d]; rfl
theorem okW_bad {ops : List S60} {k : Nat} (hk : k < ops.length) (h : okAt ops k = false) : okW ops ops.length = false := by
  have := okW_none (ops := ops) (k := k + 1) (by rw [okW, h, Bool.and_false]) (ops.length - (k + 1))
  rwa [show k + 1 + (ops.length - (k + 1)) = ops.length by omega] at this
theorem survP_mem {ops : List S60} : ∀ {k : Nat} {p : Int × Bool}, p ∈ survP ops k → ∃ j, j < k ∧ p.1 = (opAt ops j).f0 ∧ (opAt ops j).f3 = true
  | 0, p, h => by simp [survP] at h
  | k + 1, p, h => by
    rw [survP] at h
    split at h
    · rename_i hw
      rw [List.mem_append, List.mem_singleton] at h
      rcases h with h | rfl
      · obtain ⟨j, h1, h2⟩ := survP_mem h; exact ⟨j, by omega, h2⟩
      · exact ⟨k, by omega, rfl, hw⟩
    · obtain ⟨j, h1, h2⟩ := survP_mem h; exact ⟨j, by omega, h2⟩
theorem ids_ne {ops : List S60} (hd : ops.Pairwise (fun a b => a.f0 ≠ b.f0)) {i j : Nat} (hij : i < j) (hj : j < ops.length) : (opAt ops i).f0 ≠ (opAt ops j).f0 := by
  rw [opAt_get (by omega), opAt_get hj]
  exact List.pairwise_iff_getElem.1 hd i j (by omega) hj hij
theorem survP_new {ops : List S60} (hd : ops.Pairwise (fun a b => a.f0 ≠ b.f0)) {k : Nat} (hk : k < ops.length) : ∀ p ∈ survP ops k, p.1 ≠ (opAt ops k).f0 := by
  intro p hp
  obtain ⟨j, h1, h2, _⟩ := survP_mem hp
  rw [h2]; exact ids_ne hd h1 hk
theorem survP_ids {ops : List S60} (hd : ops.Pairwise (fun a b => a.f0 ≠ b.f0)) : ∀ k, k ≤ ops.length → (survP ops k).Pairwise (fun a b => a.1 ≠ b.1)
  | 0, _ => by simp [survP]
  | k + 1, h => by
    rw [survP]
    split
    · rw [List.pairwise_append]
      exact ⟨survP_ids hd k (by omega), by simp, fun a ha b hb => by simp at hb; subst hb; exact survP_new hd (by omega) a ha⟩
    · exact survP_ids hd k (by omega)

/-- A trace that is being laid: what its maps hold so far. -/
structure TraceK (w : World) (g : Nat) (A : Option Addr) (c : Nat) (ops : List S60) (B1 B2 : Nat) (ks : List ((Int × Int) × Value)) (sv : List (Int × Bool)) : Prop where
  row : Kd.C k60 w A ops.length ops
  cap : ops.length ≤ c
  size : ops.length ≤ 1000000
  blk : w.heap[g]? = some (.cells #[.slice A ops.length c, .map (some B1), .map (some B2)] 90 (0, 0))
  writes : w.heap[B1]? = some (.map (ents2 ks).toArray ks.length)
  surv : w.heap[B2]? = some (.map (entsB sv).toArray sv.length)
  ids : sv.Pairwise (fun a b => a.1 ≠ b.1)
  ne : B1 ≠ B2
section
variable {w w1 : World} {g : Nat} {A : Option Addr} {c : Nat} {ops : List S60} {B1 B2 : Nat} {ks : List ((Int × Int) × Value)} {sv : List (Int × Bool)}
theorem TraceK.below (h : TraceK w g A c ops B1 B2 ks sv) (hb : Below w.heap.size w w1) : TraceK w1 g A c ops B1 B2 ks sv :=
  ⟨Kd.C_below h.row hb, h.cap, h.size, blk_old h.blk hb, blk_old h.writes hb, blk_old h.surv hb, h.ids, h.ne⟩
theorem TraceK.trace (h : TraceK w g A c ops B1 B2 (wents A ops ops.length) sv) : Trace w g A c ops B1 B2 sv := ⟨h.row, h.cap, h.size, h.blk, h.writes, h.surv, h.ids⟩
theorem cell_setBlock {B : Nat} {o : Obj} {a : Addr} {v : Value} {es : Array MapEntry} {ck : Nat} (h : w.cell? a = some v) (hB : w.heap[B]? = some (.map es ck)) : (ChangeMaps.setBlock w B o).cell? a = some v := by
  have hne : a.block ≠ B := by intro e; unfold World.cell? at h; rw [e, hB] at h; simp at h
  have e := heap_setBlock (o := o) a.block (Array.getElem?_eq_some_iff.1 hB).1
  rw [if_neg hne] at e
  unfold World.cell? at h ⊢
  rw [e]; exact h
theorem C_setBlock {α : Type} {d : Kd α} {n : Nat} {xs : List α} {B : Nat} {o : Obj} {es : Array MapEntry} {ck : Nat} (h : d.C w A n xs) (hB : w.heap[B]? = some (.map es ck)) (hK : ∀ p cs, d.K w p cs → d.K (ChangeMaps.setBlock w B o) p cs) : d.C (ChangeMaps.setBlock w B o) A n xs :=
  ⟨h.1, h.2.1, fun hn => by
    obtain ⟨ad, e, hc⟩ := h.2.2 hn
    refine ⟨ad, e, fun j p hj => ?_⟩
    obtain ⟨cs, hs, hr, hcell⟩ := hc j p hj
    exact ⟨cs, hs, hK _ _ hr, fun i u hu => cell_setBlock (hcell i u hu) hB⟩⟩
/-- A write more. -/
theorem TraceK.write (h : TraceK w g A c ops B1 B2 ks sv) (p : (Int × Int) × Value) : TraceK (ChangeMaps.setBlock w B1 (.map (ents2 (ks ++ [p])).toArray (ks.length + 1))) g A c ops B1 B2 (ks ++ [p]) sv := by
  have hl := (Array.getElem?_eq_some_iff.1 h.writes).1
  have hg : g ≠ B1 := by intro e; have := h.blk; rw [e, h.writes] at this; cases this
  exact ⟨C_setBlock h.row h.writes (fun _ _ hk => hk), h.cap, h.size, blk_setBlock h.blk hl hg, by rw [heap_setBlock _ hl, if_pos rfl]; simp, blk_setBlock h.surv hl h.ne.symm, h.ids, h.ne⟩
/-- A survivor more. -/
theorem TraceK.survive (h : TraceK w g A c ops B1 B2 ks sv) (p : Int × Bool) (hn : ∀ q ∈ sv, q.1 ≠ p.1) : TraceK (ChangeMaps.setBlock w B2 (.map (entsB (sv ++ [p])).toArray (sv.length + 1))) g A c ops B1 B2 ks (sv ++ [p]) := by
  have hl := (Array.getElem?_eq_some_iff.1 h.surv).1
  have hg : g ≠ B2 := by intro e; have := h.blk; rw [e, h.surv] at this; cases this
  refine ⟨C_setBlock h.row h.surv (fun _ _ hk => hk), h.cap, h.size, blk_setBlock h.blk hl hg, blk_setBlock h.writes hl h.ne, by rw [heap_setBlock _ hl, if_pos rfl]; simp, ?_, h.ne⟩
  rw [List.pairwise_append]
  exact ⟨h.ids, by simp, fun a ha b hb => by simp at hb; subst hb; exact hn a ha⟩
theorem TraceK.store_surv (h : TraceK w g A c ops B1 B2 ks sv) (id : Int) (b : Bool) (hn : ∀ q ∈ sv, q.1 ≠ id) :
    (Instr.mapUpdate 88 (.map (some B2)) (.int .i64 id) (.bool b)).run Try.prog w = .ok () (ChangeMaps.setBlock w B2 (.map (entsB (sv ++ [(id, b)])).toArray (sv.length + 1))) := by
  have := store_int_new (id := id) (v := .bool b) Try.underlying88 Try.underlying3 h.surv (entsB_key sv) (by
    intro x hx e
    obtain ⟨p, hp, hk, _⟩ := entsB_mem (by simpa using hx)
    exact hn p hp (Value.int.inj (hk.symm.trans e)).2)
  rw [this, entsB_snoc]
  simp
theorem TraceK.look {k : Nat} (h : TraceK w g A c ops B1 B2 (wents A ops k) sv) (hk : k ≤ ops.length) (r v : Int) :
    (Instr.lookup 87 (.map (some B1)) (.agg #[.int .i64 r, .int .i64 v]) false).run Try.prog w = .ok (.pointer (srcP A (ops.take k) r v)) w := by
  have := look2_run w h.writes r v
  rw [look_wents A ops r v _ hk] at this
  have e : ((srcIx (ops.take k) r v).map (fun i => Value.pointer (ptrAt A i))).getD (.pointer none) = .pointer (srcP A (ops.take k) r v) := by
    unfold srcP; cases srcIx (ops.take k) r v <;> rfl
  rw [e] at this
  exact this
end
end Go.Proofs.Ytidghmgaaenihaa.Q
