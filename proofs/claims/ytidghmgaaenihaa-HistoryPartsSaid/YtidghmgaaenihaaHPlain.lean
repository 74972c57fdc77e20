/- Plain Lean functions that say what package history computes of a list of events (no program in sight). -/
import Derived.Test.YtidghmgaaenihaaQ0
namespace Go.Proofs.Ytidghmgaaenihaa.Q
open Go.RowKit Go.Proofs.YtidghmgaaenihaaW.PrintWords Go.Proofs.YtidghmgaaenihaaW.PrintLast Go.Proofs.YtidghmgaaenihaaW.PrintMore

/-- Is the call of an operation as described? -/
def properB (e : S39) : Bool :=
  if e.f1 < 0 then false else if e.f3 < 0 then false else if e.f4 < 0 then false
  else if e.f5 && !e.f2 then e.f3 == 0 && e.f4 == 0
  else e.f2 || e.f4 == 0

/-- Does an answer belong to a call? -/
def answersB (e c : S39) : Bool :=
  e.f1 == c.f1 && e.f2 == c.f2 && e.f3 == c.f3 && (e.f4 == c.f4 || (!e.f2 && !e.f5)) && e.f5 == c.f5

def cutE : S39 := ⟨3, 0, false, 0, 0, false⟩
def isCut (e : S39) : Bool := e.f0 == 3 && (e.f1 == 0 && (!e.f2 && (e.f3 == 0 && (e.f4 == 0 && !e.f5))))

/-- The place of an operation. -/
def at? (ops : List S60) (id : Int) : Option Nat := ops.findIdx? (fun o => o.f0 == id)
def opAt (ops : List S60) (j : Nat) : S60 := ops.getD j ⟨0, 0, 0, false, false, 0, 0, 0⟩
def newOp (e : S39) (era i : Int) : S60 := ⟨e.f1, e.f3, e.f4, e.f2, e.f5, era, i, -1⟩
def doneOp (o : S60) (e : S39) (i : Int) : S60 := { o with f7 := i, f2 := e.f4 }

/-- One event. -/
def pstep (l : List S39) (i : Int) (e : S39) (s : List S60 × Int) : Option (List S60 × Int) :=
  if e.f0 = 1 then
    match at? s.1 e.f1 with
    | some _ => none
    | none => if properB e = true then some (s.1 ++ [newOp e s.2 i], s.2) else none
  else if e.f0 = 2 then
    match at? s.1 e.f1 with
    | none => none
    | some j => if 0 ≤ (opAt s.1 j).f7 then none else if (opAt s.1 j).f5 = s.2 then
        (if answersB e (rd_T39 l (opAt s.1 j).f6) = true then some (s.1.set j (doneOp (opAt s.1 j) e i), s.2) else none) else none
  else if e.f0 = 3 then (if isCut e = true then some (s.1, s.2 + 1) else none)
  else none

/-- The first k events. -/
def ptake (l : List S39) : Nat → Option (List S60 × Int)
  | 0 => some ([], 0)
  | k + 1 => (ptake l k).bind (pstep l k (rd_T39 l k))

def parseP (l : List S39) : Option (List S60 × Int) := ptake l l.length

theorem ptake_none (l : List S39) (k : Nat) (h : ptake l k = none) : ∀ d, ptake l (k + d) = none
  | 0 => h
  | d + 1 => by rw [← Nat.add_assoc, ptake, ptake_none l k h d]; rfl
theorem parse_none (l : List S39) (k : Nat) (hk : k < l.length) {s : List S60 × Int} (h : ptake l k = some s) (hs : pstep l k (rd_T39 l k) s = none) : parseP l = none := by
  have := ptake_none l (k + 1) (by rw [ptake, h]; exact hs) (l.length - (k + 1))
  rwa [show k + 1 + (l.length - (k + 1)) = l.length from by omega] at this
theorem ptake_succ (l : List S39) (k : Nat) {s s' : List S60 × Int} (h : ptake l k = some s) (hs : pstep l k (rd_T39 l k) s = some s') : ptake l (k + 1) = some s' := by
  rw [ptake, h]; exact hs

/-- What holds of the operations of the first k events. -/
structure PInv (k : Nat) (s : List S60 × Int) : Prop where
  len : s.1.length ≤ k
  nodup : s.1.Pairwise (fun a b => a.f0 ≠ b.f0)
  call : ∀ o ∈ s.1, 0 ≤ o.f6 ∧ o.f6 < k ∧ 0 ≤ o.f0
  era : 0 ≤ s.2 ∧ s.2 ≤ k

theorem at?_none {ops : List S60} {id : Int} (h : at? ops id = none) : ∀ o ∈ ops, o.f0 ≠ id := by
  intro o ho e
  have := List.findIdx?_eq_none_iff.1 h o ho
  simp [e] at this
theorem at?_some {ops : List S60} {id : Int} {j : Nat} (h : at? ops id = some j) : j < ops.length ∧ (opAt ops j).f0 = id ∧ opAt ops j ∈ ops := by
  obtain ⟨hj, h1, _⟩ := List.findIdx?_eq_some_iff_getElem.1 h
  have e : opAt ops j = ops[j] := by simp [opAt, List.getD_eq_getElem?_getD, List.getElem?_eq_getElem hj]
  exact ⟨hj, by rw [e]; simpa using h1, by rw [e]; exact List.getElem_mem hj⟩
theorem at?_is {ops : List S60} {id : Int} {j : Nat} (hn : ops.Pairwise (fun a b => a.f0 ≠ b.f0)) (hj : j < ops.length) (h : (opAt ops j).f0 = id) : at? ops id = some j := by
  have e : opAt ops j = ops[j] := by simp [opAt, List.getD_eq_getElem?_getD, List.getElem?_eq_getElem hj]
  rw [e] at h
  refine List.findIdx?_eq_some_iff_getElem.2 ⟨hj, by simpa using h, fun i hi => ?_⟩
  have := List.pairwise_iff_getElem.1 hn i j (by omega) hj hi
  simp only [beq_iff_eq]
  exact fun q => this (q.trans h.symm)

theorem pstep_inv (l : List S39) (k : Nat) (e : S39) {s s' : List S60 × Int} (h : pstep l k e s = some s') (I : PInv k s) : PInv (k + 1) s' := by
  obtain ⟨ops, era⟩ := s
  obtain ⟨h1, h2, h3, h4⟩ := I
  simp only at h1 h2 h3 h4
  unfold pstep at h
  split at h
  · split at h
    · cases h
    · rename_i hn
      split at h
      · rename_i hp
        cases h
        refine ⟨by simp; omega, ?_, ?_, by simp; omega⟩
        · simp only [List.pairwise_append, List.pairwise_cons, List.mem_singleton]
          refine ⟨h2, by simp, fun a ha b hb => ?_⟩
          subst hb
          exact at?_none hn a ha
        · intro o ho
          simp only [List.mem_append, List.mem_singleton] at ho
          rcases ho with ho | rfl
          · have := h3 o ho; omega
          · simp only [newOp]
            refine ⟨by omega, by omega, ?_⟩
            unfold properB at hp
            split at hp
            · cases hp
            · omega
      · cases h
  · split at h
    · split at h
      · cases h
      · rename_i j hj
        split at h
        · cases h
        · split at h
          · split at h
            · cases h
              obtain ⟨j1, j2, j3⟩ := at?_some hj
              refine ⟨by simp; omega, ?_, ?_, by simp; omega⟩
              · rw [List.pairwise_iff_getElem] at h2 ⊢
                intro a b ha hb hab
                simp only [List.length_set] at ha hb
                have e0 : (opAt ops j) = ops[j] := by simp [opAt, List.getD_eq_getElem?_getD, List.getElem?_eq_getElem j1]
                have key : ∀ c (hc : c < ops.length), ((ops.set j (doneOp (opAt ops j) e k))[c]'(by simpa using hc)).f0 = ops[c].f0 := by
                  intro c hc
                  rw [List.getElem_set]
                  split
                  · rename_i q; subst q; rw [e0]; rfl
                  · rfl
                rw [key a ha, key b hb]
                exact h2 a b ha hb hab
              · intro o ho
                rcases List.mem_or_eq_of_mem_set ho with ho | rfl
                · have := h3 o ho; omega
                · have := h3 (opAt ops j) j3; simp only [doneOp]; exact ⟨this.1, by have := this.2.1; omega, this.2.2⟩
            · cases h
          · cases h
    · split at h
      · split at h
        · cases h
          exact ⟨by simp; omega, h2, fun o ho => by have := h3 o ho; omega, by simp; omega⟩
        · cases h
      · cases h

theorem ptake_inv (l : List S39) : ∀ (k : Nat) {s : List S60 × Int}, ptake l k = some s → PInv k s
  | 0, s, h => by cases h; exact ⟨by simp, by simp, by simp, by simp⟩
  | k + 1, s, h => by
    rw [ptake] at h
    cases e : ptake l k with
    | none => rw [e] at h; cases h
    | some s0 => rw [e] at h; exact pstep_inv l k _ h (ptake_inv l k e)

end Go.Proofs.Ytidghmgaaenihaa.Q
