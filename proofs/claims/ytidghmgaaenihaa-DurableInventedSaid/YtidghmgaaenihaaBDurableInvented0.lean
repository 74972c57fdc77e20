/- Texts of this claim, packed: Q97, Q79, Q67, RFind, REvent, RValid, PValid, PApp, HRec, HRecCall, HRecDone, RDone, PRec, HRecCut, HAct, HClone, RRecDef, PRec2, PPref, Q33, ROps, Q56, Q93, RSrc, RSeen, RSurvives, RStale, RTrace, RSurv, PSurv, RCheck, PCheck, PSto, PSto2, PSto3, Q59, KSto, RStoB, RStoC0, RStoC1, RStoC2, RStoC3, RStoC4, RStoC5. -/
import Derived.Test.YtidghmgaaenihaaQ0
import Derived.Test.YtidghmgaaenihaaHIndex
import Derived.Test.YtidghmgaaenihaaHPlain
import Derived.Test.YtidghmgaaenihaaHMap
import Derived.Test.YtidghmgaaenihaaHParse
import Derived.Test.YtidghmgaaenihaaHSurv
import Derived.Test.YtidghmgaaenihaaHMap2
import Derived.Deep.RegionLaw
import Derived.Test.YtidghmgaaenihaaHClos
import Derived.Test.YtidghmgaaenihaaHCert
import Derived.Deep.RegionHeld3
/-! part Q97 -/
namespace Go.Proofs.Ytidghmgaaenihaa.Q
open Go.RowKit Go.Proofs.YtidghmgaaenihaaW.PrintWords Go.Proofs.YtidghmgaaenihaaW.PrintLast Go.Proofs.YtidghmgaaenihaaW.PrintMore
attribute [local go_sem] max2_int min2_int max_two min_two max_three min_three max_four min_four
set_option linter.unusedVariables false
set_option linter.unusedSimpArgs false

/-! ### tegularef45_find: function 97 -/
def tegularef45_find.l0 : Nat → List (S39) → Int → Int → Int → Int → Option (Int)
  | 0, _, _, _, _, _ => none
  | k + 1, x0, x1, x2, x3, x9 => if x9 < x3 then (if 0 ≤ x9 then (if x9 < (x0.length : Int) then (if ((rd_T39 x0 x9).f0) = x1 then (if ((rd_T39 x0 x9).f1) = x2 then (some x9) else (tegularef45_find.l0 k x0 x1 x2 x3 (wrap64 (x9 + 1)))) else (tegularef45_find.l0 k x0 x1 x2 x3 (wrap64 (x9 + 1)))) else (none)) else (none)) else (some (-1))
def tegularef45_find.f (k : Nat) (l0 : List (S39)) (a1 : Int) (a2 : Int) (a3 : Int) : Option (Int) := tegularef45_find.l0 k l0 a1 a2 a3 0
theorem tegularef45_find.mono_l : ∀ k, (∀ y0 y1 y2 y3 y4, LeO (tegularef45_find.l0 k y0 y1 y2 y3 y4) (tegularef45_find.l0 (k + 1) y0 y1 y2 y3 y4))
  | 0 => fun _ _ _ _ _ r h => by simp [tegularef45_find.l0] at h
  | k + 1 => by
    have ih0 := tegularef45_find.mono_l k
    · intro y0 y1 y2 y3 y4
      unfold tegularef45_find.l0
      repeat' first
      | (with_reducible exact ih0 _ _ _ _ _)
      | (with_reducible exact LeO.refl _)
      | (with_reducible exact LeO.none _)
      | (with_reducible refine LeO.ite ?_ ?_)
      | (with_reducible refine LeO.bind ?_ (fun _ => ?_))
      | exact ih0 _ _ _ _ _
      | exact LeO.none _
      | refine LeO.ite ?_ ?_
      | refine LeO.bind ?_ (fun _ => ?_)
theorem tegularef45_find.mono : ∀ a0 a1 a2 a3 k, LeO (tegularef45_find.f k a0 a1 a2 a3) (tegularef45_find.f (k + 1) a0 a1 a2 a3) := by
  intro a0 a1 a2 a3 k
  have ih0 := tegularef45_find.mono_l k
  unfold tegularef45_find.f
  repeat' first
      | (with_reducible exact ih0 _ _ _ _ _)
      | (with_reducible exact LeO.refl _)
      | (with_reducible exact LeO.none _)
      | (with_reducible refine LeO.ite ?_ ?_)
      | (with_reducible refine LeO.bind ?_ (fun _ => ?_))
      | exact ih0 _ _ _ _ _
      | exact LeO.none _
      | refine LeO.ite ?_ ?_
      | refine LeO.bind ?_ (fun _ => ?_)
end Go.Proofs.Ytidghmgaaenihaa.Q

/-! part Q79 -/
namespace Go.Proofs.Ytidghmgaaenihaa.Q
open Go.RowKit Go.Proofs.YtidghmgaaenihaaW.PrintWords Go.Proofs.YtidghmgaaenihaaW.PrintLast Go.Proofs.YtidghmgaaenihaaW.PrintMore
attribute [local go_sem] max2_int min2_int max_two min_two max_three min_three max_four min_four
set_option linter.unusedVariables false
set_option linter.unusedSimpArgs false

/-! ### tegularef45_cut: function 79 -/
def tegularef45_cut.l0 : Nat → List (S39) → Int → Int → Option (Bool)
  | 0, _, _, _ => none
  | k + 1, x0, x2, x7 => if x7 < x2 then (if 0 ≤ x7 then (if x7 < (x0.length : Int) then (if ((rd_T39 x0 x7).f0) = 3 then (some true) else (tegularef45_cut.l0 k x0 x2 (wrap64 (x7 + 1)))) else (none)) else (none)) else (some false)
def tegularef45_cut.f (k : Nat) (l0 : List (S39)) (a1 : Int) (a2 : Int) : Option (Bool) := tegularef45_cut.l0 k l0 a2 a1
theorem tegularef45_cut.mono_l : ∀ k, (∀ y0 y1 y2, LeO (tegularef45_cut.l0 k y0 y1 y2) (tegularef45_cut.l0 (k + 1) y0 y1 y2))
  | 0 => fun _ _ _ r h => by simp [tegularef45_cut.l0] at h
  | k + 1 => by
    have ih0 := tegularef45_cut.mono_l k
    · intro y0 y1 y2
      unfold tegularef45_cut.l0
      repeat' first
      | (with_reducible exact ih0 _ _ _)
      | (with_reducible exact LeO.refl _)
      | (with_reducible exact LeO.none _)
      | (with_reducible refine LeO.ite ?_ ?_)
      | (with_reducible refine LeO.bind ?_ (fun _ => ?_))
      | exact ih0 _ _ _
      | exact LeO.none _
      | refine LeO.ite ?_ ?_
      | refine LeO.bind ?_ (fun _ => ?_)
theorem tegularef45_cut.mono : ∀ a0 a1 a2 k, LeO (tegularef45_cut.f k a0 a1 a2) (tegularef45_cut.f (k + 1) a0 a1 a2) := by
  intro a0 a1 a2 k
  have ih0 := tegularef45_cut.mono_l k
  unfold tegularef45_cut.f
  repeat' first
      | (with_reducible exact ih0 _ _ _)
      | (with_reducible exact LeO.refl _)
      | (with_reducible exact LeO.none _)
      | (with_reducible refine LeO.ite ?_ ?_)
      | (with_reducible refine LeO.bind ?_ (fun _ => ?_))
      | exact ih0 _ _ _
      | exact LeO.none _
      | refine LeO.ite ?_ ?_
      | refine LeO.bind ?_ (fun _ => ?_)
end Go.Proofs.Ytidghmgaaenihaa.Q

/-! part Q67 -/
namespace Go.Proofs.Ytidghmgaaenihaa.Q
open Go.RowKit Go.Proofs.YtidghmgaaenihaaW.PrintWords Go.Proofs.YtidghmgaaenihaaW.PrintLast Go.Proofs.YtidghmgaaenihaaW.PrintMore
attribute [local go_sem] max2_int min2_int max_two min_two max_three min_three max_four min_four
set_option linter.unusedVariables false
set_option linter.unusedSimpArgs false

/-! ### tegularef45_call: function 67 -/
def tegularef45_call.j0 : Nat → Bool → Int → Int → Bool → Int → Int → Bool → Option (Bool)
  | 0, _, _, _, _, _, _, _ => none
  | k + 1, x15, x164000, x164001, x164002, x164003, x164004, x164005 => if x15 = true then (some false) else (if x164002 = true then (some true) else (if x164004 = 0 then (if x164005 = true then (some (x164003 == 0)) else (some true)) else (some false)))
def tegularef45_call.f (k : Nat) (a0_0 : Int) (a0_1 : Int) (a0_2 : Bool) (a0_3 : Int) (a0_4 : Int) (a0_5 : Bool) : Option (Bool) := if a0_1 < 0 then (tegularef45_call.j0 k true a0_0 a0_1 a0_2 a0_3 a0_4 a0_5) else (if a0_3 < 0 then (tegularef45_call.j0 k true a0_0 a0_1 a0_2 a0_3 a0_4 a0_5) else (tegularef45_call.j0 k (decide (a0_4 < 0)) a0_0 a0_1 a0_2 a0_3 a0_4 a0_5))
theorem tegularef45_call.mono_l : ∀ k, (∀ y0 y1 y2 y3 y4 y5 y6, LeO (tegularef45_call.j0 k y0 y1 y2 y3 y4 y5 y6) (tegularef45_call.j0 (k + 1) y0 y1 y2 y3 y4 y5 y6))
  | 0 => fun _ _ _ _ _ _ _ r h => by simp [tegularef45_call.j0] at h
  | k + 1 => by
    have ih0 := tegularef45_call.mono_l k
    · intro y0 y1 y2 y3 y4 y5 y6
      unfold tegularef45_call.j0
      repeat' first
      | (with_reducible exact ih0 _ _ _ _ _ _ _)
      | (with_reducible exact LeO.refl _)
      | (with_reducible exact LeO.none _)
      | (with_reducible refine LeO.ite ?_ ?_)
      | (with_reducible refine LeO.bind ?_ (fun _ => ?_))
      | exact ih0 _ _ _ _ _ _ _
      | exact LeO.none _
      | refine LeO.ite ?_ ?_
      | refine LeO.bind ?_ (fun _ => ?_)
theorem tegularef45_call.mono : ∀ a0 a1 a2 a3 a4 a5 k, LeO (tegularef45_call.f k a0 a1 a2 a3 a4 a5) (tegularef45_call.f (k + 1) a0 a1 a2 a3 a4 a5) := by
  intro a0 a1 a2 a3 a4 a5 k
  have ih0 := tegularef45_call.mono_l k
  unfold tegularef45_call.f
  repeat' first
      | (with_reducible exact ih0 _ _ _ _ _ _ _)
      | (with_reducible exact LeO.refl _)
      | (with_reducible exact LeO.none _)
      | (with_reducible refine LeO.ite ?_ ?_)
      | (with_reducible refine LeO.bind ?_ (fun _ => ?_))
      | exact ih0 _ _ _ _ _ _ _
      | exact LeO.none _
      | refine LeO.ite ?_ ?_
      | refine LeO.bind ?_ (fun _ => ?_)
end Go.Proofs.Ytidghmgaaenihaa.Q

/-! part RFind -/
namespace Go.Proofs.Ytidghmgaaenihaa.Q
open Go.RowKit Go.Proofs.YtidghmgaaenihaaW.PrintWords Go.Proofs.YtidghmgaaenihaaW.PrintLast Go.Proofs.YtidghmgaaenihaaW.PrintMore
set_option linter.unusedVariables false
set_option linter.unusedSimpArgs false

def isEv (kind op : Int) (e : S39) : Bool := e.f0 == kind && e.f1 == op
def findI (l : List S39) (kind op : Int) (n : Nat) : Int := match (l.take n).findIdx? (isEv kind op) with | some i => i | none => -1
def cutR (l : List S39) (a b : Nat) : Bool := ((l.take b).drop a).any (fun e => e.f0 == 3)
def callR (e : S39) : Bool := !(decide (e.f1 < 0) || decide (e.f3 < 0) || decide (e.f4 < 0)) && (e.f2 || (e.f4 == 0 && (!e.f5 || e.f3 == 0)))

theorem wrap_succ {x : Int} (h0 : 0 ≤ x) (h1 : x < 9223372036854775807) : wrap64 (x + 1) = x + 1 := by
  unfold wrap64; omega
theorem rd39_at {l : List S39} {x : Int} (h0 : 0 ≤ x) (h : x < l.length) : rd_T39 l x = l[x.toNat]'(by omega) := by
  simp [rd_T39, List.getD_eq_getElem?_getD, show x.toNat < l.length by omega]
end Go.Proofs.Ytidghmgaaenihaa.Q

/-! part REvent -/
namespace Go.Proofs.Ytidghmgaaenihaa.Q
open Go.RowKit Go.Proofs.YtidghmgaaenihaaW.PrintWords Go.Proofs.YtidghmgaaenihaaW.PrintLast Go.Proofs.YtidghmgaaenihaaW.PrintMore
set_option linter.unusedVariables false
set_option linter.unusedSimpArgs false

def ansR (e c : S39) : Bool := e.f2 == c.f2 && (e.f5 == c.f5 && (e.f3 == c.f3 && ((!c.f2 && !c.f5) || e.f4 == c.f4)))
def eventE (l : List S39) (i : Nat) (e : S39) : Bool :=
  if e.f0 = 3 then isCut e
  else if e.f0 = 1 then callR e && decide (findI l 1 e.f1 i < 0)
  else if e.f0 = 2 then
    (if findI l 1 e.f1 i < 0 then false else if 0 ≤ findI l 2 e.f1 i then false
     else if cutR l (findI l 1 e.f1 i).toNat i = true then false else ansR e (rd_T39 l (findI l 1 e.f1 i)))
  else false
def eventR (l : List S39) (i : Nat) : Bool := eventE l i (rd_T39 l i)

attribute [local go_sem high] eqA39
end Go.Proofs.Ytidghmgaaenihaa.Q

/-! part RValid -/
namespace Go.Proofs.Ytidghmgaaenihaa.Q
open Go.RowKit Go.Proofs.YtidghmgaaenihaaW.PrintWords Go.Proofs.YtidghmgaaenihaaW.PrintLast Go.Proofs.YtidghmgaaenihaaW.PrintMore
set_option linter.unusedVariables false
set_option linter.unusedSimpArgs false

def validR (l : List S39) : Bool := (List.range l.length).all (eventR l)
def tegularef45_Valid.f (l0 : List S39) : Option Bool := if l0.length ≤ 1000000 then some (validR l0) else none
end Go.Proofs.Ytidghmgaaenihaa.Q

/-! part PValid -/
namespace Go.Proofs.Ytidghmgaaenihaa.Q
open Go.RowKit
set_option linter.unusedVariables false
set_option linter.unusedSimpArgs false

theorem callR_eq (e : S39) : callR e = properB e := by
  unfold callR properB
  by_cases h1 : e.f1 < 0
  · simp [h1]
  · by_cases h3 : e.f3 < 0
    · simp [h1, h3]
    · by_cases h4 : e.f4 < 0
      · simp [h1, h3, h4]
      · cases h2 : e.f2 <;> cases h5 : e.f5 <;> simp [h1, h3, h4]
        all_goals (cases h40 : (e.f4 == 0) <;> cases h30 : (e.f3 == 0) <;> simp_all)
theorem ansR_eq {e c : S39} (h : e.f1 = c.f1) : ansR e c = answersB e c := by
  unfold ansR answersB
  rw [h, beq_self_eq_true]
  cases h2 : (e.f2 == c.f2) <;> cases h5 : (e.f5 == c.f5) <;> cases h3 : (e.f3 == c.f3) <;> cases h4 : (e.f4 == c.f4) <;> simp_all
theorem findI_step (l : List S39) (kind op : Int) (k : Nat) (hk : k < l.length) : findI l kind op (k + 1) = if 0 ≤ findI l kind op k then findI l kind op k else if isEv kind op (rd_T39 l k) = true then (k : Int) else -1 := by
  have hr : rd_T39 l (k : Int) = l[k] := by rw [rd39_at (by omega) (by omega)]; simp
  unfold findI
  rw [List.take_succ_eq_append_getElem hk, List.findIdx?_append, hr]
  cases h : (l.take k).findIdx? (isEv kind op) with
  | some i => simp
  | none =>
    by_cases hm : isEv kind op l[k] = true
    · simp [List.findIdx?_cons, hm, Nat.min_eq_left (Nat.le_of_lt hk)]
    · simp [List.findIdx?_cons, hm]
theorem findI_zero (l : List S39) (kind op : Int) : findI l kind op 0 = -1 := by simp [findI]
theorem cutR_eq (l : List S39) (a b : Nat) (h : a ≤ b) : cutR l a b = decide (cutsN (l.take a) < cutsN (l.take b)) := by
  have e : l.take b = l.take a ++ (l.take b).drop a := by
    conv => lhs; rw [← List.take_append_drop a (l.take b)]
    rw [List.take_take, Nat.min_eq_left h]
  have e2 : cutsN (l.take b) = cutsN (l.take a) + (((l.take b).drop a).filter (fun e => e.f0 == 3)).length := by
    conv => lhs; rw [e]
    unfold cutsN; rw [List.filter_append, List.length_append]
  unfold cutR
  rw [e2]
  cases hc : ((l.take b).drop a).any (fun e => e.f0 == 3) with
  | true =>
    obtain ⟨x, hx, hp⟩ := List.any_eq_true.1 hc
    have : 0 < (((l.take b).drop a).filter (fun e => e.f0 == 3)).length := List.length_pos_of_mem (List.mem_filter.2 ⟨hx, hp⟩)
    exact (decide_eq_true (by omega)).symm
  | false =>
    have : ((l.take b).drop a).filter (fun e => e.f0 == 3) = [] := by
      rw [List.filter_eq_nil_iff]; intro x hx; have := List.any_eq_false.1 hc x hx; simpa using this
    rw [this]; simp

structure TInv (l : List S39) (k : Nat) (s : List S60 × Int) : Prop where
  era : s.2 = cutsN (l.take k)
  ops : ∀ o ∈ s.1, ∃ i : Nat, i < k ∧ o.f6 = i ∧ (rd_T39 l i).f1 = o.f0 ∧ findI l 1 o.f0 k = i ∧ o.f5 = cutsN (l.take i) ∧ (0 ≤ o.f7 ↔ 0 ≤ findI l 2 o.f0 k)
  all : ∀ id, 0 ≤ findI l 1 id k → ∃ o ∈ s.1, o.f0 = id
  fin : ∀ id, 0 ≤ findI l 2 id k → ∃ o ∈ s.1, o.f0 = id
  seq : ∀ o ∈ s.1, o.f7 = -1 ∨ (o.f6 < o.f7 ∧ o.f7 < k)
  cal : ∀ o ∈ s.1, o.f1 = (rd_T39 l o.f6).f3 ∧ o.f3 = (rd_T39 l o.f6).f2 ∧ o.f4 = (rd_T39 l o.f6).f5 ∧ (o.f3 = true → o.f2 = (rd_T39 l o.f6).f4 ∧ 0 ≤ o.f2)

theorem TInv.zero (l : List S39) : TInv l 0 ([], 0) := ⟨by simp [cutsN], by simp, by simp [findI_zero], by simp [findI_zero], by simp, by simp⟩

theorem event_step (l : List S39) (k : Nat) (hk : k < l.length) {s : List S60 × Int} (I : TInv l k s) : eventR l k = (pstep l k (rd_T39 l k) s).isSome := by
  unfold eventR
  generalize rd_T39 l k = e
  unfold eventE pstep
  by_cases h3 : e.f0 = 3
  · rw [if_pos h3, if_neg (by omega), if_neg (by omega), if_pos h3]
    cases isCut e <;> simp
  · rw [if_neg h3]
    by_cases h1 : e.f0 = 1
    · rw [if_pos h1, if_pos h1, callR_eq]
      cases ha : at? s.1 e.f1 with
      | none =>
        have : ¬ 0 ≤ findI l 1 e.f1 k := fun h => by
          obtain ⟨o, ho, e0⟩ := I.all _ h
          exact at?_none ha o ho e0
        rw [decide_eq_true (by omega), Bool.and_true]
        cases properB e <;> simp
      | some j =>
        obtain ⟨j1, j2, j3⟩ := at?_some ha
        obtain ⟨i, _, _, _, hf, _⟩ := I.ops _ j3
        rw [j2] at hf
        rw [decide_eq_false (by omega), Bool.and_false]; rfl
    · rw [if_neg h1, if_neg h1]
      by_cases h2 : e.f0 = 2
      · rw [if_pos h2, if_pos h2]
        cases ha : at? s.1 e.f1 with
        | none =>
          have : ¬ 0 ≤ findI l 1 e.f1 k := fun h => by
            obtain ⟨o, ho, e0⟩ := I.all _ h
            exact at?_none ha o ho e0
          rw [if_pos (by omega)]; rfl
        | some j =>
          obtain ⟨j1, j2, j3⟩ := at?_some ha
          obtain ⟨i, hi, h6, hc, hf, h5, h7⟩ := I.ops _ j3
          rw [j2] at hf hc h7
          rw [hf, if_neg (by omega)]
          simp only
          by_cases hd : 0 ≤ (opAt s.1 j).f7
          · rw [if_pos (h7.1 hd), if_pos hd]; rfl
          · rw [if_neg (fun h => hd (h7.2 h)), if_neg hd, Int.toNat_natCast, cutR_eq l i k (by omega), I.era, h5]
            have hle : cutsN (l.take i) ≤ cutsN (l.take k) := by
              have e0 : l.take i = (l.take k).take i := by rw [List.take_take, Nat.min_eq_left (by omega)]
              rw [e0]
              unfold cutsN
              exact ((List.take_sublist _ _).filter _).length_le
            by_cases hcut : cutsN (l.take i) = cutsN (l.take k)
            · rw [if_neg (by simp; omega), if_pos (by omega), h6, ansR_eq hc.symm]
              cases answersB e (rd_T39 l i) <;> simp
            · rw [if_pos (by simp; omega), if_neg (by omega)]; rfl
      · rw [if_neg h2, if_neg h2, if_neg h3]; rfl

theorem cutsN_succ {l : List S39} {k : Nat} (hk : k < l.length) : cutsN (l.take (k + 1)) = cutsN (l.take k) + if (rd_T39 l k).f0 = 3 then 1 else 0 := by
  have hr : rd_T39 l (k : Int) = l[k] := by rw [rd39_at (by omega) (by omega)]; simp
  rw [List.take_succ_eq_append_getElem hk, hr]
  unfold cutsN
  rw [List.filter_append, List.length_append]
  by_cases hc : l[k].f0 = 3 <;> simp [List.filter_cons, hc]
theorem findI_ge (l : List S39) (kind op : Int) (k : Nat) : -1 ≤ findI l kind op k := by
  unfold findI
  split
  · omega
  · omega
theorem findI_keep {l : List S39} {kind op : Int} {k : Nat} (hk : k < l.length) {i : Nat} (h : findI l kind op k = i) : findI l kind op (k + 1) = i := by
  rw [findI_step l kind op k hk, h, if_pos (by omega)]
theorem findI_same {l : List S39} {kind op : Int} {k : Nat} (hk : k < l.length) (h : isEv kind op (rd_T39 l k) = false) : findI l kind op (k + 1) = findI l kind op k := by
  rw [findI_step l kind op k hk, h]
  have := findI_ge l kind op k
  split
  · rfl
  · rw [if_neg (by decide)]; omega
theorem mem_setAt {ops : List S60} (hnd : ops.Pairwise (fun a b => a.f0 ≠ b.f0)) {j : Nat} (hj : j < ops.length) {x o : S60} (h : o ∈ ops.set j x) : o = x ∨ (o ∈ ops ∧ o.f0 ≠ (opAt ops j).f0) := by
  obtain ⟨i, hi, rfl⟩ := List.mem_iff_getElem.1 h
  rw [List.length_set] at hi
  rw [List.getElem_set]
  split
  · exact .inl rfl
  · rename_i hne
    refine .inr ⟨List.getElem_mem _, ?_⟩
    rw [opAt_get hj]
    rcases Nat.lt_or_gt_of_ne hne with hlt | hgt
    · exact fun e => List.pairwise_iff_getElem.1 hnd j i hj hi hlt e.symm
    · exact List.pairwise_iff_getElem.1 hnd i j hi hj hgt
theorem set_hit {ops : List S60} {j : Nat} (hj : j < ops.length) (x : S60) : x ∈ ops.set j x := List.mem_iff_getElem.2 ⟨j, by simpa using hj, by simp⟩
theorem set_id {ops : List S60} {j : Nat} (hj : j < ops.length) {x : S60} (hx : x.f0 = (opAt ops j).f0) {o : S60} (ho : o ∈ ops) : ∃ o' ∈ ops.set j x, o'.f0 = o.f0 := by
  obtain ⟨i, hi, rfl⟩ := List.mem_iff_getElem.1 ho
  by_cases hij : i = j
  · subst hij
    exact ⟨x, set_hit hi x, by rw [hx, opAt_get hi]⟩
  · exact ⟨ops[i], List.mem_iff_getElem.2 ⟨i, by simpa using hi, by rw [List.getElem_set]; rw [if_neg (fun h => hij h.symm)]⟩, rfl⟩
theorem tinv_step (l : List S39) (k : Nat) (hk : k < l.length) {s s' : List S60 × Int} (h : pstep l k (rd_T39 l k) s = some s') (I : TInv l k s) (P : PInv k s) : TInv l (k + 1) s' := by
  obtain ⟨ops, era⟩ := s
  obtain ⟨i1, i2, i3, i6, i4, i5⟩ := I
  have hnd := P.nodup
  simp only at i1 i2 i3 i4 i5 i6 hnd
  obtain ⟨e, he⟩ : ∃ e, rd_T39 l (k : Int) = e := ⟨_, rfl⟩
  have hcu := cutsN_succ hk
  have hkeep : ∀ kind op, (e.f0 ≠ kind ∨ e.f1 ≠ op) → findI l kind op (k + 1) = findI l kind op k := fun kind op hne => findI_same hk (by
    rw [he]; unfold isEv; rcases hne with hne | hne <;> simp [hne])
  have hhit : ∀ kind op, e.f0 = kind → e.f1 = op → 0 ≤ findI l kind op (k + 1) := fun kind op h0 h1 => by
    rw [findI_step l kind op k hk, he]
    split
    · assumption
    · rw [if_pos (by simp [isEv, h0, h1])]; omega
  rw [he] at h hcu
  unfold pstep at h
  split at h
  · rename_i h1
    split at h
    · cases h
    · rename_i hn
      split at h
      · rename_i hp
        cases h
        have hf1 : findI l 1 e.f1 k = -1 := by
          have := findI_ge l 1 e.f1 k
          by_cases hq : 0 ≤ findI l 1 e.f1 k
          · obtain ⟨o, ho, e0⟩ := i3 _ hq
            exact absurd e0 (at?_none hn o ho)
          · omega
        have hf1' : findI l 1 e.f1 (k + 1) = (k : Int) := by rw [findI_step l 1 e.f1 k hk, hf1, if_neg (by decide), he, if_pos (by simp [isEv, h1])]
        refine ⟨by rw [hcu, if_neg (by omega)]; exact i1, ?_, ?_, ?_, ?_, ?_⟩
        · intro o ho
          simp only [List.mem_append, List.mem_singleton] at ho
          rcases ho with ho | rfl
          · obtain ⟨i, a1, a2, a3, a4, a5, a6⟩ := i2 o ho
            exact ⟨i, by omega, a2, a3, findI_keep hk a4, a5, by rw [hkeep 2 _ (.inl (by omega))]; exact a6⟩
          · refine ⟨k, by omega, rfl, by rw [he]; rfl, hf1', i1, ?_⟩
            simp only [newOp]
            rw [hkeep 2 _ (.inl (by omega))]
            refine ⟨fun h => absurd h (by decide), fun h => ?_⟩
            obtain ⟨o, ho, e0⟩ := i6 _ h
            exact absurd e0 (at?_none hn o ho)
        · intro id hid
          by_cases hq : id = e.f1
          · exact ⟨newOp e era k, by simp, hq.symm ▸ rfl⟩
          · rw [hkeep 1 id (.inr (fun h => hq h.symm))] at hid
            obtain ⟨o, ho, e0⟩ := i3 id hid
            exact ⟨o, by simp [ho], e0⟩
        · intro id hid
          rw [hkeep 2 id (.inl (by omega))] at hid
          obtain ⟨o, ho, e0⟩ := i6 id hid
          exact ⟨o, by simp [ho], e0⟩
        · intro o ho
          simp only [List.mem_append, List.mem_singleton] at ho
          rcases ho with ho | rfl
          · have := i4 o ho; omega
          · exact .inl rfl
        · intro o ho
          simp only [List.mem_append, List.mem_singleton] at ho
          rcases ho with ho | rfl
          · exact i5 o ho
          · simp only [newOp, he]
            refine ⟨trivial, trivial, trivial, fun _ => ⟨trivial, ?_⟩⟩
            unfold properB at hp
            split at hp
            · cases hp
            · split at hp
              · cases hp
              · split at hp
                · cases hp
                · omega
      · cases h
  · rename_i h1
    split at h
    · rename_i h2
      split at h
      · cases h
      · rename_i j hj
        obtain ⟨j1, j2, j3⟩ := at?_some hj
        split at h
        · cases h
        · rename_i hnd7
          split at h
          · rename_i hera
            split at h
            · rename_i hans
              cases h
              obtain ⟨i, a1, a2, a3, a4, a5, a6⟩ := i2 _ j3
              have hke : ∀ o : S60, o.f0 ≠ (opAt ops j).f0 → findI l 2 o.f0 (k + 1) = findI l 2 o.f0 k := fun o hne => hkeep 2 _ (.inr (fun h => hne (by rw [← h, j2])))
              refine ⟨by rw [hcu, if_neg (by omega)]; exact i1, ?_, ?_, ?_, ?_, ?_⟩
              · intro o ho
                rcases mem_setAt hnd j1 ho with rfl | ⟨ho, hne⟩
                · refine ⟨i, by omega, a2, a3, findI_keep hk a4, a5, ?_⟩
                  simp only [doneOp]
                  refine ⟨fun _ => ?_, fun _ => by omega⟩
                  rw [j2]
                  exact hhit 2 _ h2 rfl
                · obtain ⟨i', b1, b2, b3, b4, b5, b6⟩ := i2 o ho
                  exact ⟨i', by omega, b2, b3, findI_keep hk b4, b5, by rw [hke o hne]; exact b6⟩
              · intro id hid
                rw [hkeep 1 id (.inl (by omega))] at hid
                obtain ⟨o, ho, rfl⟩ := i3 id hid
                exact set_id j1 (x := doneOp (opAt ops j) e k) rfl ho
              · intro id hid
                by_cases hq : id = e.f1
                · exact ⟨_, set_hit j1 _, by rw [hq]; exact j2⟩
                · rw [hkeep 2 id (.inr (fun h => hq h.symm))] at hid
                  obtain ⟨o, ho, rfl⟩ := i6 id hid
                  exact set_id j1 (x := doneOp (opAt ops j) e k) rfl ho
              · intro o ho
                rcases mem_setAt hnd j1 ho with rfl | ⟨ho, hne⟩
                · have a2' : (opAt ops j).f6 = i := a2
                  simp only [doneOp]; omega
                · have := i4 o ho; omega
              · intro o ho
                rcases mem_setAt hnd j1 ho with rfl | ⟨ho, hne⟩
                · obtain ⟨c1, c2, c3, c4⟩ := i5 _ j3
                  simp only [doneOp]
                  refine ⟨c1, c2, c3, fun hw => ?_⟩
                  obtain ⟨c5, c6⟩ := c4 hw
                  unfold answersB at hans
                  rw [← c2, hw, ← c5] at hans
                  simp only [Bool.and_eq_true, beq_iff_eq, Bool.or_eq_true] at hans
                  obtain ⟨⟨⟨⟨_, d2⟩, _⟩, d4⟩, _⟩ := hans
                  rw [d2] at d4
                  simp at d4
                  exact ⟨by rw [d4, c5], by rw [d4]; exact c6⟩
                · exact i5 o ho
            · cases h
          · cases h
    · rename_i h2
      split at h
      · rename_i h3
        split at h
        · cases h
          refine ⟨by rw [hcu, if_pos h3]; simp only; omega, ?_, ?_, ?_, ?_, i5⟩
          · intro o ho
            obtain ⟨i, a1, a2, a3, a4, a5, a6⟩ := i2 o ho
            exact ⟨i, by omega, a2, a3, findI_keep hk a4, a5, by rw [hkeep 2 _ (.inl (by omega))]; exact a6⟩
          · intro id hid
            rw [hkeep 1 id (.inl (by omega))] at hid
            exact i3 id hid
          · intro id hid
            rw [hkeep 2 id (.inl (by omega))] at hid
            exact i6 id hid
          · intro o ho
            have := i4 o ho; omega
        · cases h
      · cases h
theorem tinv (l : List S39) : ∀ k, k ≤ l.length → ∀ s, ptake l k = some s → TInv l k s ∧ (∀ j, j < k → eventR l j = true)
  | 0, _, s, h => by
    cases h
    exact ⟨TInv.zero l, fun j hj => absurd hj (by omega)⟩
  | k + 1, hk, s', h => by
    rw [ptake] at h
    obtain ⟨s, hs, hp⟩ := Option.bind_eq_some_iff.1 h
    obtain ⟨I, hE⟩ := tinv l k (by omega) s hs
    refine ⟨tinv_step l k hk hp I (ptake_inv l k hs), fun j hj => ?_⟩
    rcases Nat.lt_succ_iff_lt_or_eq.1 hj with hj | rfl
    · exact hE j hj
    · rw [event_step l j hk I, hp]; rfl
theorem parse_tinv {l : List S39} {s : List S60 × Int} (h : parseP l = some s) : TInv l l.length s := (tinv l l.length (Nat.le_refl _) s h).1
end Go.Proofs.Ytidghmgaaenihaa.Q

/-! part PApp -/
namespace Go.Proofs.Ytidghmgaaenihaa.Q
open Go.RowKit
set_option linter.unusedVariables false
set_option linter.unusedSimpArgs false

theorem rdE_app (l m : List S39) {k : Nat} (h : k < l.length) : rd_T39 (l ++ m) (k : Int) = rd_T39 l k := by
  unfold rd_T39
  rw [Int.toNat_natCast, List.getD_eq_getElem?_getD, List.getD_eq_getElem?_getD, List.getElem?_append_left h]
theorem rdE_end (l : List S39) (e : S39) : rd_T39 (l ++ [e]) (l.length : Int) = e := by
  unfold rd_T39
  rw [Int.toNat_natCast, List.getD_eq_getElem?_getD, List.getElem?_append_right (Nat.le_refl _)]
  simp
theorem pstep_app (l m : List S39) {k : Nat} (hk : k ≤ l.length) (i : Int) (e : S39) {s : List S60 × Int} (I : PInv k s) : pstep (l ++ m) i e s = pstep l i e s := by
  unfold pstep
  split
  · rfl
  · split
    · cases hj : at? s.1 e.f1 with
      | none => rfl
      | some j =>
        obtain ⟨h1, h2, h3⟩ := at?_some hj
        have hc := I.call _ h3
        have e : rd_T39 (l ++ m) (opAt s.1 j).f6 = rd_T39 l (opAt s.1 j).f6 := by
          obtain ⟨n, hn⟩ : ∃ n : Nat, (opAt s.1 j).f6 = n := ⟨(opAt s.1 j).f6.toNat, by omega⟩
          rw [hn]; exact rdE_app l m (by omega)
        simp only [e]
    · rfl
theorem ptake_app (l m : List S39) : ∀ k, k ≤ l.length → ptake (l ++ m) k = ptake l k
  | 0, _ => rfl
  | k + 1, h => by
    rw [ptake, ptake, ptake_app l m k (by omega), rdE_app l m (by omega)]
    cases hs : ptake l k with
    | none => rfl
    | some s => exact pstep_app l m (by omega) _ _ (ptake_inv l k hs)
theorem parse_snoc (l : List S39) (e : S39) : parseP (l ++ [e]) = (parseP l).bind (pstep l l.length e) := by
  unfold parseP
  rw [List.length_append, List.length_singleton, ptake, ptake_app l [e] _ (Nat.le_refl _), rdE_end]
  cases hs : ptake l l.length with
  | none => rfl
  | some s => exact pstep_app l [e] (Nat.le_refl _) _ _ (ptake_inv l _ hs)
theorem at?_fresh {ops : List S60} {id : Int} (h : ∀ o ∈ ops, o.f0 ≠ id) : at? ops id = none := List.findIdx?_eq_none_iff.2 (fun o ho => by simpa using h o ho)
theorem parse_call {l : List S39} {ops : List S60} {era : Int} (h : parseP l = some (ops, era)) {e : S39} (h0 : e.f0 = 1) (hp : properB e = true) (hn : at? ops e.f1 = none) :
    parseP (l ++ [e]) = some (ops ++ [newOp e era l.length], era) := by
  rw [parse_snoc, h]
  show pstep l l.length e (ops, era) = _
  unfold pstep
  rw [if_pos h0, hn]
  simp only
  rw [if_pos hp]
theorem parse_cut {l : List S39} {ops : List S60} {era : Int} (h : parseP l = some (ops, era)) : parseP (l ++ [cutE]) = some (ops, era + 1) := by
  rw [parse_snoc, h]
  rfl
/-- The event of an operation's call, from the operation. -/
theorem call_event {l : List S39} {s : List S60 × Int} (h : parseP l = some s) {o : S60} (ho : o ∈ s.1) : (rd_T39 l o.f6).f0 = 1 ∧ (rd_T39 l o.f6).f1 = o.f0 ∧ (rd_T39 l o.f6).f2 = o.f3 ∧ (rd_T39 l o.f6).f3 = o.f1 ∧ (rd_T39 l o.f6).f5 = o.f4 ∧ (o.f3 = true → (rd_T39 l o.f6).f4 = o.f2) := by
  have T := parse_tinv h
  obtain ⟨i, hi, h6, hc, hf, _⟩ := T.ops o ho
  obtain ⟨c1, c2, c3, c4⟩ := T.cal o ho
  refine ⟨?_, by rw [h6]; exact hc, c2.symm, c1.symm, c3.symm, fun q => (c4 q).1.symm⟩
  rw [h6]
  unfold findI at hf
  split at hf
  · rename_i j hj
    obtain ⟨j1, j2, _⟩ := List.findIdx?_eq_some_iff_getElem.1 hj
    have e : j = i := by omega
    subst e
    have hr : rd_T39 l (j : Int) = l[j]'(by simp at j1; omega) := by rw [rd39_at (by omega) (by simp at j1; omega)]; simp
    rw [hr]
    rw [List.getElem_take] at j2
    unfold isEv at j2
    rw [Bool.and_eq_true] at j2
    simpa using j2.1
  · omega
theorem parse_done {l : List S39} {ops : List S60} {era : Int} (h : parseP l = some (ops, era)) {e : S39} (h0 : e.f0 = 2) {j : Nat} (hj : at? ops e.f1 = some j) (h7 : (opAt ops j).f7 < 0) (h5 : (opAt ops j).f5 = era) (ha : answersB e (rd_T39 l (opAt ops j).f6) = true) :
    parseP (l ++ [e]) = some (ops.set j (doneOp (opAt ops j) e l.length), era) := by
  rw [parse_snoc, h]
  show pstep l l.length e (ops, era) = _
  unfold pstep
  rw [if_neg (by omega), if_pos h0, hj]
  simp only
  rw [if_neg (by omega), if_pos h5, if_pos ha]
end Go.Proofs.Ytidghmgaaenihaa.Q

/-! part HRec -/
namespace Go.Proofs.Ytidghmgaaenihaa.Q
open Go.RowKit Go.Proofs.YtidghmgaaenihaaW.PrintWords Go.Proofs.YtidghmgaaenihaaW.PrintLast Go.Proofs.YtidghmgaaenihaaW.PrintMore
set_option linter.unusedVariables false
set_option linter.unusedSimpArgs false

/-- A recorder at p: its rows lie in blocks of its own. -/
structure RecV (w : World) (base p : Nat) (ok : Nat → Prop) (v1 v2 v3 : Value) (es cs : List S39) (os : List Bool) : Prop where
  blk : w.heap[p]? = some (.cells #[v1, v2, v3] 116 (0, 0))
  le : base ≤ p
  okp : ok p
  R1 : Kd.R k39 39 w base ok v1 es
  R2 : Kd.R k39 39 w base ok v2 cs
  R3 : Kd.R Kd.bool 4 w base ok v3 os
  apart : ∀ k, v1.ownBlock = some k → v2.ownBlock ≠ some k
section
variable {w W w1 : World} {base p : Nat} {ok : Nat → Prop} {v1 v2 v3 u : Value} {es cs : List S39} {os : List Bool} {e : S39}
theorem RecV.lt (h : RecV w base p ok v1 v2 v3 es cs os) : p < w.heap.size := blk_lt h.blk
theorem RecV.below (h : RecV w base p ok v1 v2 v3 es cs os) (hb : Below w.heap.size w W) : RecV W base p ok v1 v2 v3 es cs os :=
  ⟨(hb.block p h.lt).trans h.blk, h.le, h.okp, Kd.R_below h.R1 hb, Kd.R_below h.R2 hb, Kd.R_below h.R3 hb, h.apart⟩
end
end Go.Proofs.Ytidghmgaaenihaa.Q

/-! part HRecCall -/
namespace Go.Proofs.Ytidghmgaaenihaa.Q
open Go.RowKit Go.Proofs.YtidghmgaaenihaaW.PrintWords Go.Proofs.YtidghmgaaenihaaW.PrintLast Go.Proofs.YtidghmgaaenihaaW.PrintMore
set_option linter.unusedVariables false
set_option linter.unusedSimpArgs false

section
variable {w W w1 : World} {base p g : Nat} {ok : Nat → Prop} {x : S39} {v1 v2 v3 u : Value} {es cs : List S39} {os : List Bool} {e : S39}
end
end Go.Proofs.Ytidghmgaaenihaa.Q

/-! part HRecDone -/
namespace Go.Proofs.Ytidghmgaaenihaa.Q
open Go.RowKit Go.Proofs.YtidghmgaaenihaaW.PrintWords Go.Proofs.YtidghmgaaenihaaW.PrintLast Go.Proofs.YtidghmgaaenihaaW.PrintMore
set_option linter.unusedVariables false
set_option linter.unusedSimpArgs false

section
variable {w W w1 : World} {base p g : Nat} {ok : Nat → Prop} {v1 v2 v3 u : Value} {es cs : List S39} {os : List Bool} {e : S39}
end
end Go.Proofs.Ytidghmgaaenihaa.Q

/-! part RDone -/
namespace Go.Proofs.Ytidghmgaaenihaa.Q
open Go.RowKit Go.Proofs.YtidghmgaaenihaaW.PrintWords Go.Proofs.YtidghmgaaenihaaW.PrintLast Go.Proofs.YtidghmgaaenihaaW.PrintMore
set_option linter.unusedVariables false
set_option linter.unusedSimpArgs false
end Go.Proofs.Ytidghmgaaenihaa.Q

/-! part PRec -/
namespace Go.Proofs.Ytidghmgaaenihaa.Q
open Go.RowKit
set_option linter.unusedVariables false
set_option linter.unusedSimpArgs false
end Go.Proofs.Ytidghmgaaenihaa.Q

/-! part HRecCut -/
namespace Go.Proofs.Ytidghmgaaenihaa.Q
open Go.RowKit Go.Proofs.YtidghmgaaenihaaW.PrintWords Go.Proofs.YtidghmgaaenihaaW.PrintLast Go.Proofs.YtidghmgaaenihaaW.PrintMore
set_option linter.unusedVariables false
set_option linter.unusedSimpArgs false

section
variable {w : World} {base p : Nat} {ok : Nat → Prop} {es cs : List S39} {os : List Bool}
end
end Go.Proofs.Ytidghmgaaenihaa.Q

/-! part HAct -/
namespace Go.Proofs.Ytidghmgaaenihaa.Q
open Go.RowKit Go.Proofs.YtidghmgaaenihaaW.PrintWords Go.Proofs.YtidghmgaaenihaaW.PrintLast Go.Proofs.YtidghmgaaenihaaW.PrintMore
set_option linter.unusedVariables false
set_option linter.unusedSimpArgs false
end Go.Proofs.Ytidghmgaaenihaa.Q

/-! part HClone -/
namespace Go.Proofs.Ytidghmgaaenihaa.Q
open Go.RowKit Go.Proofs.YtidghmgaaenihaaW.PrintWords Go.Proofs.YtidghmgaaenihaaW.PrintLast Go.Proofs.YtidghmgaaenihaaW.PrintMore
set_option linter.unusedVariables false
set_option linter.unusedSimpArgs false
end Go.Proofs.Ytidghmgaaenihaa.Q

/-! part RRecDef -/
namespace Go.Proofs.Ytidghmgaaenihaa.Q
open Go.RowKit Go.Proofs.YtidghmgaaenihaaW.PrintWords Go.Proofs.YtidghmgaaenihaaW.PrintLast Go.Proofs.YtidghmgaaenihaaW.PrintMore
set_option linter.unusedVariables false
set_option linter.unusedSimpArgs false
end Go.Proofs.Ytidghmgaaenihaa.Q

/-! part PRec2 -/
namespace Go.Proofs.Ytidghmgaaenihaa.Q
open Go.RowKit
set_option linter.unusedVariables false
set_option linter.unusedSimpArgs false
end Go.Proofs.Ytidghmgaaenihaa.Q

/-! part PPref -/
namespace Go.Proofs.Ytidghmgaaenihaa.Q
open Go.RowKit
set_option linter.unusedVariables false
set_option linter.unusedSimpArgs false
def Grew (a b : List S60) : Prop := b.length ≤ a.length ∧ ∀ i, i < b.length → (opAt a i).f0 = (opAt b i).f0 ∧ (opAt a i).f6 = (opAt b i).f6 ∧ (opAt a i).f5 = (opAt b i).f5 ∧ (0 ≤ (opAt b i).f7 → opAt a i = opAt b i)
theorem Grew.refl (a : List S60) : Grew a a := ⟨Nat.le_refl _, fun _ _ => ⟨rfl, rfl, rfl, fun _ => rfl⟩⟩
theorem opAt_setE (ops : List S60) (j i : Nat) (o : S60) (hi : i < ops.length) : opAt (ops.set j o) i = if j = i then o else opAt ops i := by
  unfold opAt
  rw [List.getD_eq_getElem?_getD, List.getD_eq_getElem?_getD, List.getElem?_set]
  split
  · rename_i h; subst h; simp [hi]
  · rfl
theorem pstep_grew {l : List S39} {k : Int} {e : S39} {s s' : List S60 × Int} (h : pstep l k e s = some s') : Grew s'.1 s.1 := by
  unfold pstep at h
  split at h
  · split at h
    · cases h
    · split at h
      · cases h
        refine ⟨by simp, fun i hi => ?_⟩
        have : opAt (s.1 ++ [newOp e s.2 k]) i = opAt s.1 i := by
          unfold opAt
          rw [List.getD_eq_getElem?_getD, List.getElem?_append_left hi, ← List.getD_eq_getElem?_getD]
        simp [this]
      · cases h
  · split at h
    · split at h
      · cases h
      · rename_i j hj
        split at h
        · cases h
        · rename_i h7
          split at h
          · split at h
            · cases h
              refine ⟨by simp, fun i hi => ?_⟩
              simp only
              rw [opAt_setE _ _ _ _ hi]
              by_cases hji : j = i
              · subst hji
                rw [if_pos rfl]
                exact ⟨rfl, rfl, rfl, fun q => absurd q h7⟩
              · rw [if_neg hji]
                exact ⟨rfl, rfl, rfl, fun _ => rfl⟩
            · cases h
          · cases h
    · split at h
      · split at h
        · cases h; exact Grew.refl _
        · cases h
      · cases h
end Go.Proofs.Ytidghmgaaenihaa.Q

/-! part Q33 -/
namespace Go.Proofs.Ytidghmgaaenihaa.Q
open Go.RowKit Go.Proofs.YtidghmgaaenihaaW.PrintWords Go.Proofs.YtidghmgaaenihaaW.PrintLast Go.Proofs.YtidghmgaaenihaaW.PrintMore
attribute [local go_sem] max2_int min2_int max_two min_two max_three min_three max_four min_four
set_option linter.unusedVariables false
set_option linter.unusedSimpArgs false

/-! ### tegularef45_Ops: function 33 -/
mutual
def tegularef45_Ops.l0 : Nat → List (S39) → List (S59) → Int → Int → Option ((List (S59)) × Int)
  | 0, _, _, _, _ => none
  | k + 1, x0, x4, x5, x6 => if x6 < (x0.length : Int) then (if 0 ≤ x6 then (if ((rd_T39 x0 x6).f0) = 3 then (tegularef45_Ops.l0 k x0 x4 (wrap64 (x5 + 1)) (wrap64 (x6 + 1))) else (if ((rd_T39 x0 x6).f0) = 1 then (if x4.length < 2513169434916 then (tegularef45_Ops.l0 k x0 (x4 ++ [(⟨(rd_T39 x0 x6).f1, (rd_T39 x0 x6).f3, (rd_T39 x0 x6).f4, (rd_T39 x0 x6).f2, (rd_T39 x0 x6).f5, x5, x6, (-1)⟩ : S59)]) x5 (wrap64 (x6 + 1))) else (none)) else (tegularef45_Ops.l1 k x0 x4 x5 x6 0 ((rd_T39 x0 x6).f0) ((rd_T39 x0 x6).f1) ((rd_T39 x0 x6).f2) ((rd_T39 x0 x6).f3) ((rd_T39 x0 x6).f4) ((rd_T39 x0 x6).f5)))) else (none)) else (some (x4, 0))
def tegularef45_Ops.l1 : Nat → List (S39) → List (S59) → Int → Int → Int → Int → Int → Bool → Int → Int → Bool → Option ((List (S59)) × Int)
  | 0, _, _, _, _, _, _, _, _, _, _, _ => none
  | k + 1, x0, x4, x5, x6, x8, x179000, x179001, x179002, x179003, x179004, x179005 => if x8 < (x4.length : Int) then (if 0 ≤ x8 then (if ((rd_T59 x4 x8).f0) = x179001 then ((some (x4.set (x8 : Int).toNat (⟨(rd_T59 x4 x8).f0, (rd_T59 x4 x8).f1, x179004, (rd_T59 x4 x8).f3, (rd_T59 x4 x8).f4, (rd_T59 x4 x8).f5, (rd_T59 x4 x8).f6, (rd_T59 x4 x8).f7⟩ : S59) : List (S59))).bind fun y183 => (tegularef45_Ops.l1 k x0 (y183.set (x8 : Int).toNat (⟨(rd_T59 y183 x8).f0, (rd_T59 y183 x8).f1, (rd_T59 y183 x8).f2, (rd_T59 y183 x8).f3, (rd_T59 y183 x8).f4, (rd_T59 y183 x8).f5, (rd_T59 y183 x8).f6, x6⟩ : S59)) x5 x6 (wrap64 (x8 + 1)) x179000 x179001 x179002 x179003 x179004 x179005)) else (tegularef45_Ops.l1 k x0 x4 x5 x6 (wrap64 (x8 + 1)) x179000 x179001 x179002 x179003 x179004 x179005)) else (none)) else (tegularef45_Ops.l0 k x0 x4 x5 (wrap64 (x6 + 1)))
end
def tegularef45_Ops.f (k : Nat) (l0 : List (S39)) : Option ((List (S59)) × Int) := (tegularef45_Valid.f l0).bind fun t176 => (if t176 = true then (tegularef45_Ops.l0 k l0 ([] : List (S59)) 0 0) else (some (([] : List (S59)), 1)))
theorem tegularef45_Ops.mono_l : ∀ k, (∀ y0 y1 y2 y3, LeO (tegularef45_Ops.l0 k y0 y1 y2 y3) (tegularef45_Ops.l0 (k + 1) y0 y1 y2 y3)) ∧ (∀ y0 y1 y2 y3 y4 y5 y6 y7 y8 y9 y10, LeO (tegularef45_Ops.l1 k y0 y1 y2 y3 y4 y5 y6 y7 y8 y9 y10) (tegularef45_Ops.l1 (k + 1) y0 y1 y2 y3 y4 y5 y6 y7 y8 y9 y10))
  | 0 => ⟨fun _ _ _ _ r h => by simp [tegularef45_Ops.l0] at h, fun _ _ _ _ _ _ _ _ _ _ _ r h => by simp [tegularef45_Ops.l1] at h⟩
  | k + 1 => by
    obtain ⟨ih0, ih1⟩ := tegularef45_Ops.mono_l k
    refine ⟨?_, ?_⟩
    · intro y0 y1 y2 y3
      unfold tegularef45_Ops.l0
      repeat' first
      | (with_reducible exact ih0 _ _ _ _)
      | (with_reducible exact ih1 _ _ _ _ _ _ _ _ _ _ _)
      | (with_reducible exact LeO.refl _)
      | (with_reducible exact LeO.none _)
      | (with_reducible refine LeO.ite ?_ ?_)
      | (with_reducible refine LeO.bind ?_ (fun _ => ?_))
      | exact ih0 _ _ _ _
      | exact ih1 _ _ _ _ _ _ _ _ _ _ _
      | exact LeO.none _
      | refine LeO.ite ?_ ?_
      | refine LeO.bind ?_ (fun _ => ?_)
    · intro y0 y1 y2 y3 y4 y5 y6 y7 y8 y9 y10
      unfold tegularef45_Ops.l1
      repeat' first
      | (with_reducible exact ih0 _ _ _ _)
      | (with_reducible exact ih1 _ _ _ _ _ _ _ _ _ _ _)
      | (with_reducible exact LeO.refl _)
      | (with_reducible exact LeO.none _)
      | (with_reducible refine LeO.ite ?_ ?_)
      | (with_reducible refine LeO.bind ?_ (fun _ => ?_))
      | exact ih0 _ _ _ _
      | exact ih1 _ _ _ _ _ _ _ _ _ _ _
      | exact LeO.none _
      | refine LeO.ite ?_ ?_
      | refine LeO.bind ?_ (fun _ => ?_)
theorem tegularef45_Ops.mono : ∀ a0 k, LeO (tegularef45_Ops.f k a0) (tegularef45_Ops.f (k + 1) a0) := by
  intro a0 k
  obtain ⟨ih0, ih1⟩ := tegularef45_Ops.mono_l k
  unfold tegularef45_Ops.f
  repeat' first
      | (with_reducible exact ih0 _ _ _ _)
      | (with_reducible exact ih1 _ _ _ _ _ _ _ _ _ _ _)
      | (with_reducible exact LeO.refl _)
      | (with_reducible exact LeO.none _)
      | (with_reducible refine LeO.ite ?_ ?_)
      | (with_reducible refine LeO.bind ?_ (fun _ => ?_))
      | exact ih0 _ _ _ _
      | exact ih1 _ _ _ _ _ _ _ _ _ _ _
      | exact LeO.none _
      | refine LeO.ite ?_ ?_
      | refine LeO.bind ?_ (fun _ => ?_)
end Go.Proofs.Ytidghmgaaenihaa.Q

/-! part ROps -/
namespace Go.Proofs.Ytidghmgaaenihaa.Q
open Go.RowKit Go.Proofs.YtidghmgaaenihaaW.PrintWords Go.Proofs.YtidghmgaaenihaaW.PrintLast Go.Proofs.YtidghmgaaenihaaW.PrintMore
set_option linter.unusedVariables false
set_option linter.unusedSimpArgs false

end Go.Proofs.Ytidghmgaaenihaa.Q

/-! part Q56 -/
namespace Go.Proofs.Ytidghmgaaenihaa.Q
open Go.RowKit Go.Proofs.YtidghmgaaenihaaW.PrintWords Go.Proofs.YtidghmgaaenihaaW.PrintLast Go.Proofs.YtidghmgaaenihaaW.PrintMore
attribute [local go_sem] max2_int min2_int max_two min_two max_three min_three max_four min_four
set_option linter.unusedVariables false
set_option linter.unusedSimpArgs false

/-! ### tegularef47_read: function 56 -/
end Go.Proofs.Ytidghmgaaenihaa.Q

/-! part Q93 -/
namespace Go.Proofs.Ytidghmgaaenihaa.Q
open Go.RowKit Go.Proofs.YtidghmgaaenihaaW.PrintWords Go.Proofs.YtidghmgaaenihaaW.PrintLast Go.Proofs.YtidghmgaaenihaaW.PrintMore
attribute [local go_sem] max2_int min2_int max_two min_two max_three min_three max_four min_four
set_option linter.unusedVariables false
set_option linter.unusedSimpArgs false

/-! ### tegularef47_precedes: function 93 -/
end Go.Proofs.Ytidghmgaaenihaa.Q

/-! part RSrc -/
namespace Go.Proofs.Ytidghmgaaenihaa.Q
open Go.RowKit Go.Proofs.YtidghmgaaenihaaW.PrintWords Go.Proofs.YtidghmgaaenihaaW.PrintLast Go.Proofs.YtidghmgaaenihaaW.PrintMore
set_option linter.unusedVariables false
set_option linter.unusedSimpArgs false

def srcI (ops : List S60) (r v : Int) : Int := idxOf ops (isSrc r v)
end Go.Proofs.Ytidghmgaaenihaa.Q

/-! part RSeen -/
namespace Go.Proofs.Ytidghmgaaenihaa.Q
open Go.RowKit Go.Proofs.YtidghmgaaenihaaW.PrintWords Go.Proofs.YtidghmgaaenihaaW.PrintLast Go.Proofs.YtidghmgaaenihaaW.PrintMore
set_option linter.unusedVariables false
set_option linter.unusedSimpArgs false

def seenB (ops : List S60) (v : Nat) (o : S60) : Bool := ansB o && (decide ((opAt ops v).f5 < o.f5) && (srcI ops o.f1 o.f2 == (v : Int)))
def seenR (ops : List S60) (v : Nat) : Bool := ops.any (seenB ops v)
end Go.Proofs.Ytidghmgaaenihaa.Q

/-! part RSurvives -/
namespace Go.Proofs.Ytidghmgaaenihaa.Q
open Go.RowKit Go.Proofs.YtidghmgaaenihaaW.PrintWords Go.Proofs.YtidghmgaaenihaaW.PrintLast Go.Proofs.YtidghmgaaenihaaW.PrintMore
set_option linter.unusedVariables false
set_option linter.unusedSimpArgs false

def survAt (ops : List S60) (w i : Nat) : Bool := ((opAt ops i).f5 == (opAt ops w).f5) && (precB (opAt ops w) (opAt ops i) && (((opAt ops i).f4 && decide (0 ≤ (opAt ops i).f7)) || ((opAt ops i).f3 && seenR ops i)))
def survR (ops : List S60) (w : Nat) : Bool := if (opAt ops w).f7 < 0 then false else if (opAt ops w).f4 = true then true else if seenR ops w = true then true else (List.range ops.length).any (survAt ops w)
theorem range_no {n : Nat} {p : Nat → Bool} (h : ∀ i, i < n → p i = false) : (List.range n).any p = false := by
  rw [List.any_eq_false]; intro x hx; rw [h x (List.mem_range.1 hx)]; decide
theorem range_yes {n i : Nat} {p : Nat → Bool} (h : i < n) (hp : p i = true) : (List.range n).any p = true := by
  rw [List.any_eq_true]; exact ⟨i, List.mem_range.2 h, hp⟩
def finalR (ops : List S60) (w : Nat) (r : S60) : Bool := precB (opAt ops w) r && ((opAt ops w).f5 == r.f5 || survR ops w)
end Go.Proofs.Ytidghmgaaenihaa.Q

/-! part RStale -/
namespace Go.Proofs.Ytidghmgaaenihaa.Q
open Go.RowKit Go.Proofs.YtidghmgaaenihaaW.PrintWords Go.Proofs.YtidghmgaaenihaaW.PrintLast Go.Proofs.YtidghmgaaenihaaW.PrintMore
set_option linter.unusedVariables false
set_option linter.unusedSimpArgs false

def hideR (ops : List S60) (s : Int) (o : S60) : Bool := decide (s < 0) || (precB (opAt ops s.toNat) o || decide ((opAt ops s.toNat).f5 < o.f5))
def staleAt (ops : List S60) (r : S60) (s : Int) (i : Nat) : Bool := (opAt ops i).f3 && ((opAt ops i).f1 == r.f1 && (!((i : Int) == s) && (finalR ops i r && hideR ops s (opAt ops i))))
def firstI (n : Nat) (p : Nat → Bool) : Int := match (List.range n).find? p with | some i => i | none => -1
end Go.Proofs.Ytidghmgaaenihaa.Q

/-! part RTrace -/
namespace Go.Proofs.Ytidghmgaaenihaa.Q
open Go.RowKit Go.Proofs.YtidghmgaaenihaaW.PrintWords Go.Proofs.YtidghmgaaenihaaW.PrintLast Go.Proofs.YtidghmgaaenihaaW.PrintMore
set_option linter.unusedVariables false
set_option linter.unusedSimpArgs false

def twin (ops : List S60) (i k : Nat) : Bool := (opAt ops k).f3 && ((opAt ops k).f1 == (opAt ops i).f1 && (opAt ops k).f2 == (opAt ops i).f2)
def badAt (ops : List S60) (i : Nat) : Bool := (opAt ops i).f3 && ((opAt ops i).f2 == 0 || (List.range i).any (twin ops i))
def traceQ (ops : List S60) (err : Int) : Bool := !(List.range ops.length).any (badAt ops) && err == 0
def traceR (l : List S39) : Bool := traceQ (opsP l).1 (opsP l).2
end Go.Proofs.Ytidghmgaaenihaa.Q

/-! part RSurv -/
namespace Go.Proofs.Ytidghmgaaenihaa.Q
open Go.RowKit Go.Proofs.YtidghmgaaenihaaW.PrintWords Go.Proofs.YtidghmgaaenihaaW.PrintLast Go.Proofs.YtidghmgaaenihaaW.PrintMore
set_option linter.unusedVariables false
set_option linter.unusedSimpArgs false

theorem range_next {β : Type} (f : Nat → Option β) (x : Nat) : (List.range (x + 1)).filterMap f = (List.range x).filterMap f ++ (match f x with | some y => [y] | none => []) := by
  rw [List.range_succ, List.filterMap_append]
  cases hf : f x <;> simp [hf]
end Go.Proofs.Ytidghmgaaenihaa.Q

/-! part PSurv -/
namespace Go.Proofs.Ytidghmgaaenihaa.Q
open Go.RowKit
set_option linter.unusedVariables false
set_option linter.unusedSimpArgs false

theorem opAt_mem {ops : List S60} {i : Nat} (h : i < ops.length) : opAt ops i ∈ ops := by rw [opAt_get h]; exact List.getElem_mem _
theorem mem_opAt {ops : List S60} {o : S60} (h : o ∈ ops) : ∃ i, i < ops.length ∧ o = opAt ops i := by
  obtain ⟨i, hi, rfl⟩ := List.mem_iff_getElem.1 h
  exact ⟨i, hi, (opAt_get hi).symm⟩
theorem src_none {ops : List S60} {k : Nat} (hk : k ≤ ops.length) (r v : Int) : (srcIx (ops.take k) r v).isNone = !(List.range k).any (fun i => isSrc r v (opAt ops i)) := by
  cases h : srcIx (ops.take k) r v with
  | none =>
    have := List.findIdx?_eq_none_iff.1 h
    rw [range_no (fun i hi => ?_)]
    · rfl
    · refine this _ (List.mem_iff_getElem.2 ⟨i, by rw [List.length_take]; omega, ?_⟩)
      rw [List.getElem_take, opAt_get (by omega)]
  | some i =>
    obtain ⟨h1, h2, _⟩ := List.findIdx?_eq_some_iff_getElem.1 h
    rw [List.length_take] at h1
    rw [List.getElem_take, ← opAt_get (by omega)] at h2
    rw [range_yes (show i < k by omega) h2]
    rfl
theorem okAt_bad {l : List S39} {s : List S60 × Int} (hs : parseP l = some s) {k : Nat} (hk : k < s.1.length) : okAt s.1 k = !badAt s.1 k := by
  obtain ⟨c1, c2, c3, c4⟩ := (parse_tinv hs).cal _ (opAt_mem hk)
  unfold okAt badAt
  rw [src_none (by omega)]
  cases h3 : (opAt s.1 k).f3 with
  | false => rfl
  | true =>
    obtain ⟨c5, c6⟩ := c4 h3
    have e : (fun i => isSrc (opAt s.1 k).f1 (opAt s.1 k).f2 (opAt s.1 i)) = twin s.1 k := rfl
    rw [e]
    have e2 : decide (1 ≤ (opAt s.1 k).f2) = !((opAt s.1 k).f2 == 0) := by
      by_cases h0 : (opAt s.1 k).f2 = 0
      · simp [h0]
      · rw [decide_eq_true (by omega)]; simp [h0]
    rw [e2]
    cases ((opAt s.1 k).f2 == 0) <;> cases (List.range k).any (twin s.1 k) <;> rfl
theorem okW_all {l : List S39} {s : List S60 × Int} (hs : parseP l = some s) : ∀ k, k ≤ s.1.length → okW s.1 k = !(List.range k).any (badAt s.1)
  | 0, _ => rfl
  | k + 1, hk => by
    rw [okW, okW_all hs k (by omega), okAt_bad hs (by omega), List.range_succ, List.any_append]
    simp
theorem trace_eq (l : List S39) : traceR l = (beginP l).isSome := by
  unfold traceR traceQ beginP opsP
  cases hs : parseP l with
  | none => rfl
  | some s =>
    simp only
    rw [← okW_all hs _ (Nat.le_refl _)]
    cases okW s.1 s.1.length <;> rfl
theorem srcI_eq (ops : List S60) (r v : Int) (s : Nat) : (srcI ops r v == (s : Int)) = true ↔ srcIx ops r v = some s := by
  unfold srcI idxOf srcIx
  cases h : ops.findIdx? (isSrc r v) with
  | none => simp
  | some i => simp; omega
theorem certain_eq {ops : List S60} (hnd : ops.Pairwise (fun a b => a.f0 ≠ b.f0)) {w : Nat} (hw : w < ops.length) : certainB ops (opAt ops w) = survR ops w := by
  unfold certainB survR
  split
  · rfl
  · split
    · rfl
    · rw [Bool.eq_iff_iff]
      simp only [Bool.or_eq_true, List.any_eq_true]
      constructor
      · rintro (⟨o, ho, h⟩ | ⟨o, ho, h⟩)
        · obtain ⟨i, hi, rfl⟩ := mem_opAt ho
          split
          · rfl
          · refine List.any_eq_true.2 ⟨i, List.mem_range.2 hi, ?_⟩
            unfold rule1 at h
            unfold survAt
            simp only [Bool.and_eq_true] at h ⊢
            obtain ⟨h1, h2, h3, h4⟩ := h
            rw [h1, h2, h3, h4]
            simp
        · unfold rule2 at h
          rw [Bool.and_eq_true] at h
          obtain ⟨h1, h2⟩ := h
          split at h2
          · cases h2
          · rename_i s hsrc
            obtain ⟨hs1, hs2⟩ := src_lt hsrc
            simp only [Bool.and_eq_true, Bool.or_eq_true, beq_iff_eq] at h2
            obtain ⟨h3, h4, h5⟩ := h2
            have hsn : seenR ops s = true := List.any_eq_true.2 ⟨o, ho, by
              unfold seenB
              rw [h1, h4, (srcI_eq ops _ _ s).2 hsrc]; rfl⟩
            rcases h5 with h5 | h5
            · have : s = w := by
                rcases Nat.lt_trichotomy s w with hlt | rfl | hgt
                · exact absurd h5 (ids_ne hnd hlt hw)
                · rfl
                · exact absurd h5.symm (ids_ne hnd hgt hs1)
              subst this
              rw [if_pos hsn]
            · split
              · rfl
              · refine List.any_eq_true.2 ⟨s, List.mem_range.2 hs1, ?_⟩
                unfold survAt
                unfold isSrc at hs2
                rw [Bool.and_eq_true] at hs2
                rw [h3, h5, hsn, hs2.1]
                simp
      · intro h
        split at h
        · rename_i hsn
          obtain ⟨o, ho, h1⟩ := List.any_eq_true.1 hsn
          unfold seenB at h1
          simp only [Bool.and_eq_true] at h1
          obtain ⟨h1, h2, h3⟩ := h1
          refine .inr ⟨o, ho, ?_⟩
          unfold rule2
          rw [(srcI_eq ops _ _ w).1 h3]
          simp [h1]
          exact of_decide_eq_true h2
        · obtain ⟨i, hi, h1⟩ := List.any_eq_true.1 h
          have hi := List.mem_range.1 hi
          unfold survAt at h1
          simp only [Bool.and_eq_true, Bool.or_eq_true] at h1
          obtain ⟨h5, hp, hq⟩ := h1
          rcases hq with ⟨h4, h7⟩ | ⟨h3, hsn⟩
          · refine .inl ⟨opAt ops i, opAt_mem hi, ?_⟩
            unfold rule1
            rw [h4, h7, h5, hp]; rfl
          · obtain ⟨o, ho, h1⟩ := List.any_eq_true.1 hsn
            unfold seenB at h1
            simp only [Bool.and_eq_true] at h1
            obtain ⟨h1, h2, h6⟩ := h1
            refine .inr ⟨o, ho, ?_⟩
            unfold rule2
            rw [(srcI_eq ops _ _ i).1 h6]
            simp only
            rw [h1, h5, h2, hp]
            simp
theorem lookB_surv {ops : List S60} (hnd : ops.Pairwise (fun a b => a.f0 ≠ b.f0)) {i : Nat} (hi : i < ops.length) (h3 : (opAt ops i).f3 = true) : ∀ k, k ≤ ops.length → lookB (survP ops k) (opAt ops i).f0 = (decide (i < k) && certainB ops (opAt ops i))
  | 0, _ => by simp [survP, lookB]
  | k + 1, hk => by
    have ih := lookB_surv hnd hi h3 k (by omega)
    rw [survP]
    rcases Nat.lt_trichotomy i k with hlt | rfl | hgt
    · have hne : ((opAt ops k).f0 == (opAt ops i).f0) = false := by simpa using fun e => ids_ne hnd hlt (by omega) e.symm
      split
      · unfold lookB at ih ⊢
        rw [List.any_append, ih, List.any_cons, List.any_nil, hne, decide_eq_true hlt, decide_eq_true (show i < k + 1 by omega)]
        simp
      · rw [ih, decide_eq_true hlt, decide_eq_true (show i < k + 1 by omega)]
    · rw [if_pos h3]
      unfold lookB at ih ⊢
      rw [List.any_append, ih, List.any_cons, List.any_nil, beq_self_eq_true, decide_eq_false (Nat.lt_irrefl _), decide_eq_true (Nat.lt_succ_self _)]
      simp
    · have hne : ((opAt ops k).f0 == (opAt ops i).f0) = false := by simpa using ids_ne hnd hgt hi
      split
      · unfold lookB at ih ⊢
        rw [List.any_append, ih, List.any_cons, List.any_nil, hne, decide_eq_false (show ¬ i < k by omega), decide_eq_false (show ¬ i < k + 1 by omega)]
        simp
      · rw [ih, decide_eq_false (show ¬ i < k by omega), decide_eq_false (show ¬ i < k + 1 by omega)]
theorem surv_sv {ops : List S60} (hnd : ops.Pairwise (fun a b => a.f0 ≠ b.f0)) {i : Nat} (hi : i < ops.length) (h3 : (opAt ops i).f3 = true) : lookB (survP ops ops.length) (opAt ops i).f0 = survR ops i := by
  rw [lookB_surv hnd hi h3 _ (Nat.le_refl _), decide_eq_true hi, Bool.true_and, certain_eq hnd hi]
theorem ops_range (ops : List S60) : ops = (List.range ops.length).map (opAt ops) := by
  apply List.ext_getElem
  · simp
  · intro i h1 h2
    rw [List.getElem_map, List.getElem_range, opAt_get h1]
theorem filter_range {β : Type} (ops : List S60) (f : S60 → Option β) : ops.filterMap f = (List.range ops.length).filterMap (fun i => f (opAt ops i)) := by
  conv => lhs; rw [ops_range ops]
  rw [List.filterMap_map]; rfl
theorem range_congr {β : Type} {f g : Nat → Option β} : ∀ {n : Nat}, (∀ i, i < n → f i = g i) → (List.range n).filterMap f = (List.range n).filterMap g
  | 0, _ => rfl
  | n + 1, h => by
    rw [range_next, range_next, range_congr (fun i hi => h i (by omega)), h n (by omega)]
end Go.Proofs.Ytidghmgaaenihaa.Q

/-! part RCheck -/
namespace Go.Proofs.Ytidghmgaaenihaa.Q
open Go.RowKit Go.Proofs.YtidghmgaaenihaaW.PrintWords Go.Proofs.YtidghmgaaenihaaW.PrintLast Go.Proofs.YtidghmgaaenihaaW.PrintMore
set_option linter.unusedVariables false
set_option linter.unusedSimpArgs false

def staleF (ops : List S60) (r : S60) (s : Int) : Option S32 := if 0 ≤ firstI ops.length (staleAt ops r s) then some ⟨3, r.f0, (opAt ops (firstI ops.length (staleAt ops r s)).toNat).f0⟩ else none
def faultF (ops : List S60) (r : S60) (s : Int) : Option S32 :=
  if s < 0 then (if r.f2 = 0 then staleF ops r s else some ⟨1, r.f0, -1⟩)
  else if r.f7 < (opAt ops s.toNat).f6 then some ⟨2, r.f0, (opAt ops s.toNat).f0⟩ else staleF ops r s
def faultQ (ops : List S60) (i : Nat) : Option S32 := if ansB (opAt ops i) = true then faultF ops (opAt ops i) (srcI ops (opAt ops i).f1 (opAt ops i).f2) else none
def checkQ (l : List S39) : List S32 × Int := if traceR l = true then ((List.range (opsP l).1.length).filterMap (faultQ (opsP l).1), 0) else ([], 1)
end Go.Proofs.Ytidghmgaaenihaa.Q

/-! part PCheck -/
namespace Go.Proofs.Ytidghmgaaenihaa.Q
open Go.RowKit
set_option linter.unusedVariables false
set_option linter.unusedSimpArgs false

def to32 (f : S33) : S32 := ⟨f.f0, f.f1, f.f2⟩
theorem idx_first {ops : List S60} {p : S60 → Bool} {q : Nat → Bool} (h : ∀ i, i < ops.length → p (opAt ops i) = q i) : idxOf ops p = firstI ops.length q := by
  unfold firstI
  cases hf : (List.range ops.length).find? q with
  | none =>
    have := List.find?_eq_none.1 hf
    refine idxOf_miss (fun o ho => ?_)
    obtain ⟨i, hi, rfl⟩ := mem_opAt ho
    rw [h i hi]
    simpa using this i (List.mem_range.2 hi)
  | some i =>
    have hi := List.mem_range.1 (List.mem_of_find?_eq_some hf)
    rw [List.find?_range_eq_some] at hf
    obtain ⟨h1, _, h3⟩ := hf
    show idxOf ops p = (i : Int)
    refine idxOf_hit (by omega) (by omega) (fun o ho => ?_) (by rw [rd60_opAt hi, h i hi]; exact h1)
    rw [Int.toNat_natCast] at ho
    obtain ⟨j, hj, rfl⟩ := List.mem_iff_getElem.1 ho
    rw [List.length_take] at hj
    rw [List.getElem_take, ← opAt_get (by omega), h j (by omega)]
    simpa using h3 j (by omega)
theorem stale_eq {l : List S39} {s : List S60 × Int} (hs : parseP l = some s) (r : S60) (si : Option Nat) {i : Nat} (hi : i < s.1.length) :
    staleB s.1 (survP s.1 s.1.length) r si (opAt s.1 i) = staleAt s.1 r (match si with | some k => (k : Int) | none => -1) i := by
  have hnd := (ptake_inv l l.length hs).nodup
  have hsq := (parse_tinv hs).seq _ (opAt_mem hi)
  unfold staleB staleAt
  cases h3 : (opAt s.1 i).f3 with
  | false => rfl
  | true =>
    have hf : finalB (survP s.1 s.1.length) (opAt s.1 i) r = finalR s.1 i r := by
      unfold finalB finalR precB
      rw [surv_sv hnd hi h3, Bool.and_assoc]
    rw [hf]
    cases si with
    | none =>
      have e : ((i : Int) == -1) = false := beq_eq_false_iff_ne.2 (by omega)
      simp only [hidesB, hideR, e]
      simp
    | some k =>
      simp only [hidesB, hideR]
      rw [decide_eq_false (show ¬ (k : Int) < 0 by omega), Int.toNat_natCast, Bool.false_or]
      by_cases hik : i = k
      · subst hik
        have e1 : precB (opAt s.1 i) (opAt s.1 i) = false := by
          unfold precB
          rcases hsq with h | ⟨h, _⟩
          · rw [h]; rfl
          · rw [decide_eq_false (show ¬ (opAt s.1 i).f7 < (opAt s.1 i).f6 by omega), Bool.and_false]
        rw [e1]
        simp
      · have e : ((i : Int) == (k : Int)) = false := beq_eq_false_iff_ne.2 (by omega)
        rw [e]
        cases ((opAt s.1 i).f1 == r.f1) <;> cases (finalR s.1 i r) <;> cases (precB (opAt s.1 k) (opAt s.1 i) || decide ((opAt s.1 k).f5 < (opAt s.1 i).f5)) <;> rfl
theorem judge_eq {l : List S39} {s : List S60 × Int} (hs : parseP l = some s) (r : S60) (si : Option Nat) :
    (if (judgeS s.1 (survP s.1 s.1.length) r si).2 = true then some (to32 (judgeS s.1 (survP s.1 s.1.length) r si).1) else none) = staleF s.1 r (match si with | some k => (k : Int) | none => -1) := by
  have e := idx_first (fun i hi => stale_eq hs r si hi)
  have hrg := idxOf_range s.1 (staleB s.1 (survP s.1 s.1.length) r si)
  unfold judgeS staleF
  rw [← e]
  by_cases h : idxOf s.1 (staleB s.1 (survP s.1 s.1.length) r si) < 0
  · rw [if_pos h, if_neg (show ¬ 0 ≤ idxOf s.1 (staleB s.1 (survP s.1 s.1.length) r si) by omega)]; rfl
  · rw [if_neg h]
    simp only [if_true, to32]
    obtain ⟨k, hk⟩ : ∃ k : Nat, idxOf s.1 (staleB s.1 (survP s.1 s.1.length) r si) = k := ⟨(idxOf s.1 (staleB s.1 (survP s.1 s.1.length) r si)).toNat, by omega⟩
    rw [hk, Int.toNat_natCast, rd60_opAt (by omega), if_pos (show (0 : Int) ≤ k by omega)]
theorem fault_eq {l : List S39} {s : List S60 × Int} (hs : parseP l = some s) (i : Nat) : faultQ s.1 i = (faultOf s.1 (survP s.1 s.1.length) (opAt s.1 i)).map to32 := by
  unfold faultQ faultOf
  split
  · unfold faultF judgeB srcI idxOf
    have ej := fun si => judge_eq hs (opAt s.1 i) si
    cases hx : srcIx s.1 (opAt s.1 i).f1 (opAt s.1 i).f2 with
    | none =>
      have hx' : s.1.findIdx? (isSrc (opAt s.1 i).f1 (opAt s.1 i).f2) = none := hx
      rw [hx']
      simp only
      rw [if_pos (by decide)]
      split
      · rw [← ej none]
        split <;> simp [*]
      · rfl
    | some k =>
      have hx' : s.1.findIdx? (isSrc (opAt s.1 i).f1 (opAt s.1 i).f2) = some k := hx
      rw [hx']
      simp only
      rw [if_neg (by omega), Int.toNat_natCast]
      split
      · rfl
      · rw [← ej (some k)]
        split <;> simp [*]
  · rfl
theorem map_range {n : Nat} {f : Nat → Option S33} : (List.range n).filterMap (fun i => (f i).map to32) = ((List.range n).filterMap f).map to32 := by
  rw [List.map_filterMap]
theorem checkQ_eq (l : List S39) : checkQ l = ((checkP l).1.map to32, (checkP l).2) := by
  unfold checkQ checkP
  rw [trace_eq]
  unfold beginP opsP
  cases hs : parseP l with
  | none => rfl
  | some s =>
    simp only
    cases hk : okW s.1 s.1.length with
    | false => rfl
    | true =>
      simp only [if_true, Option.isSome_some]
      rw [filter_range, ← map_range, range_congr (fun i _ => fault_eq hs i)]
end Go.Proofs.Ytidghmgaaenihaa.Q

/-! part PSto -/
namespace Go.Proofs.Ytidghmgaaenihaa.Q
open Go.RowKit
set_option linter.unusedVariables false
set_option linter.unusedSimpArgs false
/-- An operation of the storage. -/
structure MOp where
  call : S39
  ex : Bool
  dn : Bool
  res : Int
  pos : Int
structure MS where
  l : List S39
  ops : List MOp
  ch : List (Int × Int)
  safe : Int
  n : Int
def mz : MOp := ⟨⟨0, 0, false, 0, 0, false⟩, false, false, 0, 0⟩
def mAt (M : List MOp) (k : Nat) : MOp := M.getD k mz
def valM (ch : List (Int × Int)) (r : Int) : Int := ch.foldl (fun v c => if c.1 = r then c.2 else v) 0
def stoE (a : S100) (n : Int) : S39 :=
  ⟨1, n, a.f0 % 8 == 1 || a.f0 % 8 == 2, if a.f0 % 8 = 3 then 0 else a.f1 % 4, if (a.f0 % 8 == 1 || a.f0 % 8 == 2) = true then n + 1 else 0, a.f0 % 8 == 2 || a.f0 % 8 == 3⟩
def stoJ (s : MS) (a : S100) : Nat := if s.ops.length = 0 then 0 else (a.f2 % (s.ops.length : Int)).toNat
def stoX (s : MS) (j : Nat) : MS :=
  let o := mAt s.ops j
  let ch := if o.call.f2 = true then s.ch ++ [(o.call.f3, o.call.f4)] else s.ch
  { s with ch := ch, ops := s.ops.set j { o with ex := true, pos := ch.length, res := if (!o.call.f2 && !o.call.f5) = true then valM ch o.call.f3 else o.res } }
def stoD (s : MS) (j : Nat) : MS :=
  let o := mAt s.ops j
  { s with l := s.l ++ [⟨2, o.call.f1, o.call.f2, o.call.f3, if o.call.f2 = true then o.call.f4 else o.res, o.call.f5⟩],
           ops := s.ops.set j { o with dn := true }, safe := if o.call.f5 = true then max s.safe o.pos else s.safe }
def stoC (s : MS) (a : S100) : MS :=
  let kept := s.safe + a.f2 % ((s.ch.length : Int) - s.safe + 1)
  { s with l := s.l ++ [cutE], ops := [], ch := s.ch.take kept.toNat, safe := kept }
def stoStep (s : MS) (a : S100) : MS :=
  if a.f0 % 8 < 4 then { s with l := s.l ++ [stoE a s.n], ops := s.ops ++ [⟨stoE a s.n, false, false, 0, 0⟩], n := s.n + 1 }
  else if a.f0 % 8 < 6 then (if s.ops.length = 0 then s else if (mAt s.ops (stoJ s a)).ex = true then s else stoX s (stoJ s a))
  else if a.f0 % 8 = 6 then (if s.ops.length = 0 then s else if (mAt s.ops (stoJ s a)).ex = true then (if (mAt s.ops (stoJ s a)).dn = true then s else stoD s (stoJ s a)) else s)
  else stoC s a
def stoN (script : List S100) (x : Nat) : MS := (script.take x).foldl stoStep ⟨[], [], [], 0, 0⟩

def ordB (P : List S60) (a b : Nat) : Prop := precB (opAt P b) (opAt P a) = false ∧ (opAt P a).f5 ≤ (opAt P b).f5
def lastV (P : List S60) (L : List Nat) (r : Int) : Int := L.foldl (fun v i => if (opAt P i).f1 = r then (i : Int) + 1 else v) 0
def chOf (P : List S60) (C : List Nat) : List (Int × Int) := C.map (fun i => ((opAt P i).f1, (i : Int) + 1))
theorem val_last (P : List S60) (C : List Nat) (r : Int) : valM (chOf P C) r = lastV P C r := by
  unfold valM chOf lastV
  rw [List.foldl_map]
/-- What a read saw when it was executed. -/
structure Snp (P : List S60) (C : List Nat) (i : Nat) (L : List Nat) : Prop where
  wr : ∀ w ∈ L, w < P.length ∧ (opAt P w).f3 = true
  ord : L.Pairwise (ordB P)
  same : ∀ w, w < P.length → (opAt P w).f3 = true → (opAt P w).f5 = (opAt P i).f5 → precB (opAt P w) (opAt P i) = true → w ∈ L
  old : ∀ w, w < P.length → (opAt P w).f3 = true → (opAt P w).f5 < (opAt P i).f5 → (w ∈ L ↔ w ∈ C)
  cal : 0 ≤ (opAt P i).f7 → ∀ w ∈ L, (opAt P w).f6 < (opAt P i).f7
structure SI (l : List S39) (P : List S60) (era : Int) (base : Nat) (M : List MOp) (C : List Nat) (safe : Nat) (snap : Nat → List Nat) : Prop where
  parse : parseP l = some (P, era)
  len : base + M.length = P.length
  id : ∀ i, i < P.length → (opAt P i).f0 = (i : Int)
  val : ∀ i, i < P.length → (opAt P i).f3 = true → (opAt P i).f2 = (i : Int) + 1
  eraLo : ∀ i, i < base → i < P.length → (opAt P i).f5 < era
  eraHi : ∀ i, base ≤ i → i < P.length → (opAt P i).f5 = era
  call : ∀ i, i < P.length → (opAt P i).f6 < l.length
  seq : ∀ i, i < P.length → (opAt P i).f7 = -1 ∨ ((opAt P i).f6 < (opAt P i).f7 ∧ (opAt P i).f7 < l.length)
  mev : ∀ k, k < M.length → (mAt M k).call = ⟨1, ((base + k : Nat) : Int), (opAt P (base + k)).f3, (opAt P (base + k)).f1, if (opAt P (base + k)).f3 = true then ((base + k : Nat) : Int) + 1 else 0, (opAt P (base + k)).f4⟩
  cev : ∀ k, k < M.length → rd_T39 l (opAt P (base + k)).f6 = (mAt M k).call
  dn : ∀ k, k < M.length → ((mAt M k).dn = true ↔ 0 ≤ (opAt P (base + k)).f7)
  dnex : ∀ k, k < M.length → (mAt M k).dn = true → (mAt M k).ex = true
  resF : ∀ k, k < M.length → (opAt P (base + k)).f3 = false → (opAt P (base + k)).f4 = true → (mAt M k).res = 0
  cw : ∀ i ∈ C, i < P.length ∧ (opAt P i).f3 = true ∧ (base ≤ i → (mAt M (i - base)).ex = true)
  cin : ∀ i, base ≤ i → i < P.length → (opAt P i).f3 = true → (mAt M (i - base)).ex = true → i ∈ C
  ord : C.Pairwise (ordB P)
  fol : ∀ s ∈ C, ∀ w, w < P.length → (opAt P w).f3 = true → (opAt P w).f5 = (opAt P s).f5 → precB (opAt P w) (opAt P s) = true → w ∈ C
  sle : safe ≤ C.length
  frz : ∀ w ∈ C, w < base → w ∈ C.take safe
  bar : ∀ o, o < P.length → (opAt P o).f4 = true → 0 ≤ (opAt P o).f7 → ∀ w, w < P.length → (opAt P w).f3 = true → (w = o ∨ ((opAt P w).f5 = (opAt P o).f5 ∧ precB (opAt P w) (opAt P o) = true)) → w ∈ C.take safe
  pos : ∀ k, k < M.length → (mAt M k).ex = true → 0 ≤ (mAt M k).pos ∧ (mAt M k).pos ≤ C.length ∧ ∀ w, w < P.length → (opAt P w).f3 = true → (w = base + k ∨ ((opAt P w).f5 = era ∧ precB (opAt P w) (opAt P (base + k)) = true)) → w ∈ C.take (mAt M k).pos.toNat
  rd : ∀ i, i < P.length → (opAt P i).f3 = false → (opAt P i).f4 = false → (base ≤ i → (mAt M (i - base)).ex = true) → (i < base → 0 ≤ (opAt P i).f7) →
    Snp P C i (snap i) ∧ (0 ≤ (opAt P i).f7 → (opAt P i).f2 = lastV P (snap i) (opAt P i).f1) ∧ (base ≤ i → (mAt M (i - base)).res = lastV P (snap i) (opAt P i).f1)
theorem SI.zero : SI [] [] 0 0 [] [] 0 (fun _ => []) := by
  refine ⟨rfl, rfl, ?_, ?_, ?_, ?_, ?_, ?_, ?_, ?_, ?_, ?_, ?_, ?_, ?_, List.Pairwise.nil, ?_, Nat.le_refl _, ?_, ?_, ?_, ?_⟩ <;> simp
theorem rd_appI (l m : List S39) {i : Int} (h0 : 0 ≤ i) (hi : i < l.length) : rd_T39 (l ++ m) i = rd_T39 l i := by
  obtain ⟨n, rfl⟩ : ∃ n : Nat, i = n := ⟨i.toNat, by omega⟩
  exact rdE_app l m (by omega)
theorem mAt_app (M : List MOp) (o : MOp) (k : Nat) : mAt (M ++ [o]) k = if k < M.length then mAt M k else if k = M.length then o else mz := by
  unfold mAt
  rw [List.getD_eq_getElem?_getD, List.getD_eq_getElem?_getD]
  by_cases h : k < M.length
  · rw [if_pos h, List.getElem?_append_left h]
  · rw [if_neg h, List.getElem?_append_right (by omega)]
    by_cases h2 : k = M.length
    · subst h2; simp
    · rw [if_neg h2, List.getElem?_eq_none (by simp; omega)]; rfl
theorem mAt_set (M : List MOp) (j k : Nat) (o : MOp) (hj : j < M.length) : mAt (M.set j o) k = if j = k then o else mAt M k := by
  unfold mAt
  rw [List.getD_eq_getElem?_getD, List.getD_eq_getElem?_getD, List.getElem?_set]
  by_cases h : j = k
  · subst h; simp [hj]
  · simp [h]
theorem opAt_app (P : List S60) (o : S60) (k : Nat) (hk : k < P.length + 1) : opAt (P ++ [o]) k = if k < P.length then opAt P k else o := by
  unfold opAt
  rw [List.getD_eq_getElem?_getD, List.getD_eq_getElem?_getD]
  by_cases h : k < P.length
  · rw [if_pos h, List.getElem?_append_left h]
  · rw [if_neg h, List.getElem?_append_right (by omega)]
    simp [show k - P.length = 0 by omega]
theorem ordB_keep {P P' : List S60} {L : List Nat} (h : L.Pairwise (ordB P)) (hl : ∀ w ∈ L, w < P.length) (h5 : ∀ i, i < P.length → (opAt P' i).f5 = (opAt P i).f5) (hp : ∀ a b, a < P.length → b < P.length → precB (opAt P' a) (opAt P' b) = precB (opAt P a) (opAt P b)) : L.Pairwise (ordB P') := by
  refine List.Pairwise.imp_of_mem ?_ h
  intro a b ha hb hab
  unfold ordB at hab ⊢
  rw [hp b a (hl b hb) (hl a ha), h5 a (hl a ha), h5 b (hl b hb)]
  exact hab
theorem lastV_keep {P P' : List S60} {L : List Nat} (hl : ∀ w ∈ L, w < P.length) (h1 : ∀ i, i < P.length → (opAt P' i).f1 = (opAt P i).f1) (r : Int) : lastV P' L r = lastV P L r := by
  unfold lastV
  generalize (0 : Int) = z
  induction L generalizing z with
  | nil => rfl
  | cons w L ih =>
    rw [List.foldl_cons, List.foldl_cons, h1 w (hl w (List.mem_cons_self ..))]
    exact ih (fun x hx => hl x (List.mem_cons_of_mem _ hx)) _
theorem chOf_keep {P P' : List S60} {C : List Nat} (hl : ∀ w ∈ C, w < P.length) (h1 : ∀ i, i < P.length → (opAt P' i).f1 = (opAt P i).f1) : chOf P' C = chOf P C := by
  unfold chOf
  refine List.map_congr_left (fun i hi => ?_)
  rw [h1 i (hl i hi)]
theorem take_mono {C : List Nat} {a b w : Nat} (h : a ≤ b) (hw : w ∈ C.take a) : w ∈ C.take b := by
  have e : C.take a = (C.take b).take a := by rw [List.take_take, Nat.min_eq_left h]
  rw [e] at hw
  exact List.mem_of_mem_take hw
section
variable {l : List S39} {P : List S60} {era : Int} {base : Nat} {M : List MOp} {C : List Nat} {safe : Nat} {snap : Nat → List Nat}
theorem SI.eraLe (h : SI l P era base M C safe snap) {i : Nat} (hi : i < P.length) : (opAt P i).f5 ≤ era := by
  by_cases hb : i < base
  · have := h.eraLo i hb hi; omega
  · have := h.eraHi i (by omega) hi; omega
theorem SI.isNew (h : SI l P era base M C safe snap) {i : Nat} (hi : i < P.length) (he : (opAt P i).f5 = era) : base ≤ i := by
  by_cases hb : i < base
  · have := h.eraLo i hb hi; omega
  · omega
theorem SI.atId (h : SI l P era base M C safe snap) {i : Nat} (hi : i < P.length) : at? P (i : Int) = some i :=
  at?_is (ptake_inv l l.length h.parse).nodup hi (h.id i hi)
/-- What was answered in this era was executed. -/
theorem SI.doneIn (h : SI l P era base M C safe snap) {w : Nat} (hw : w < P.length) (h3 : (opAt P w).f3 = true) (he : (opAt P w).f5 = era) (h7 : 0 ≤ (opAt P w).f7) : w ∈ C := by
  have hb := h.isNew hw he
  have hl := h.len
  refine h.cin w hb hw h3 (h.dnex _ (by omega) ((h.dn _ (by omega)).2 ?_))
  rw [show base + (w - base) = w by omega]; exact h7
theorem SI.doCall (h : SI l P era base M C safe snap) {e : S39} (h0 : e.f0 = 1) (h1 : e.f1 = P.length) (hp : properB e = true) (h4 : e.f4 = if e.f2 = true then (P.length : Int) + 1 else 0) :
    ∃ P', P'.length = P.length + 1 ∧ chOf P' C = chOf P C ∧ SI (l ++ [e]) P' era base (M ++ [⟨e, false, false, 0, 0⟩]) C safe snap := by
  have hl := h.len
  have hn : at? P e.f1 = none := at?_fresh (fun o ho => by
    obtain ⟨i, hi, rfl⟩ := mem_opAt ho
    rw [h.id i hi, h1]; omega)
  have hlt : ∀ i, i < P.length → opAt (P ++ [newOp e era l.length]) i = opAt P i := fun i hi => by rw [opAt_app _ _ _ (by omega), if_pos hi]
  have hend : opAt (P ++ [newOp e era l.length]) P.length = newOp e era l.length := by rw [opAt_app _ _ _ (by omega), if_neg (by omega)]
  have hPl : (P ++ [newOp e era l.length]).length = P.length + 1 := by simp
  have cl : ∀ i, i < P.length + 1 → i < P.length ∨ i = P.length := fun i hi => by omega
  have hpe : ∀ b, precB (opAt (P ++ [newOp e era l.length]) P.length) b = false := fun b => by rw [hend]; simp [precB, newOp]
  have hCl : ∀ w ∈ C, w < P.length := fun w hw => (h.cw w hw).1
  have hMa : ∀ k, k < M.length → mAt (M ++ [⟨e, false, false, 0, 0⟩]) k = mAt M k := fun k hk => by rw [mAt_app, if_pos hk]
  have hMe : mAt (M ++ [⟨e, false, false, 0, 0⟩]) M.length = ⟨e, false, false, 0, 0⟩ := by rw [mAt_app, if_neg (by omega), if_pos rfl]
  refine ⟨P ++ [newOp e era l.length], hPl, chOf_keep hCl (fun i hi => by rw [hlt i hi]), ?_⟩
  refine ⟨parse_call h.parse h0 hp hn, by simp; omega, ?_, ?_, ?_, ?_, ?_, ?_, ?_, ?_, ?_, ?_, ?_, ?_, ?_, ?_, ?_, h.sle, h.frz, ?_, ?_, ?_⟩
  · intro i hi
    rw [hPl] at hi
    rcases cl i hi with hi | rfl
    · rw [hlt i hi]; exact h.id i hi
    · rw [hend]; simpa [newOp] using h1
  · intro i hi h3
    rw [hPl] at hi
    rcases cl i hi with hi | rfl
    · rw [hlt i hi] at h3 ⊢; exact h.val i hi h3
    · rw [hend] at h3 ⊢
      simp only [newOp] at h3 ⊢
      rw [h4, if_pos h3]
  · intro i hb hi
    rw [hlt i (by omega)]; exact h.eraLo i hb (by omega)
  · intro i hb hi
    rw [hPl] at hi
    rcases cl i hi with hi | rfl
    · rw [hlt i hi]; exact h.eraHi i hb hi
    · rw [hend]; rfl
  · intro i hi
    rw [hPl] at hi
    rw [List.length_append, List.length_singleton]
    rcases cl i hi with hi | rfl
    · rw [hlt i hi]; have := h.call i hi; omega
    · rw [hend]; simp only [newOp]; omega
  · intro i hi
    rw [hPl] at hi
    rw [List.length_append, List.length_singleton]
    rcases cl i hi with hi | rfl
    · rw [hlt i hi]; have := h.seq i hi; omega
    · rw [hend]; exact .inl rfl
  · intro k hk
    rw [List.length_append, List.length_singleton] at hk
    by_cases hk2 : k < M.length
    · rw [hMa k hk2, hlt _ (by omega)]; exact h.mev k hk2
    · obtain rfl : k = M.length := by omega
      rw [hMe, show base + M.length = P.length by omega, hend]
      obtain ⟨e0, e1, e2, e3, e4, e5⟩ := e
      simp only [newOp] at *
      rw [h0, h1, h4]
      cases e2 <;> rfl
  · intro k hk
    rw [List.length_append, List.length_singleton] at hk
    by_cases hk2 : k < M.length
    · rw [hMa k hk2, hlt _ (by omega), rd_appI _ _ ((ptake_inv l l.length h.parse).call _ (opAt_mem (ops := P) (by omega))).1 (h.call _ (by omega))]
      exact h.cev k hk2
    · obtain rfl : k = M.length := by omega
      rw [hMe, show base + M.length = P.length by omega, hend]
      exact rdE_end l e
  · intro k hk
    rw [List.length_append, List.length_singleton] at hk
    by_cases hk2 : k < M.length
    · rw [hMa k hk2, hlt _ (by omega)]; exact h.dn k hk2
    · obtain rfl : k = M.length := by omega
      rw [hMe, show base + M.length = P.length by omega, hend]
      simp [newOp]
  · intro k hk hd
    rw [List.length_append, List.length_singleton] at hk
    by_cases hk2 : k < M.length
    · rw [hMa k hk2] at hd ⊢; exact h.dnex k hk2 hd
    · obtain rfl : k = M.length := by omega
      rw [hMe] at hd; cases hd
  · intro k hk q3 q4
    rw [List.length_append, List.length_singleton] at hk
    by_cases hk2 : k < M.length
    · rw [hlt _ (by omega)] at q3 q4; rw [hMa k hk2]; exact h.resF k hk2 q3 q4
    · obtain rfl : k = M.length := by omega
      rw [hMe]
  · intro i hi
    obtain ⟨c1, c2, c3⟩ := h.cw i hi
    refine ⟨by omega, by rw [hlt i c1]; exact c2, fun q => ?_⟩
    rw [hMa _ (by omega)]; exact c3 q
  · intro i hb hi h3 hx
    rw [hPl] at hi
    rcases cl i hi with hi | rfl
    · rw [hlt i hi] at h3
      rw [hMa _ (by omega)] at hx
      exact h.cin i hb hi h3 hx
    · rw [show P.length - base = M.length by omega, hMe] at hx; cases hx
  · exact ordB_keep h.ord hCl (fun i hi => by rw [hlt i hi]) (fun a b ha hb => by rw [hlt a ha, hlt b hb])
  · intro s hs w hw h3 h5 hpr
    rw [hPl] at hw
    rcases cl w hw with hw | rfl
    · rw [hlt w hw] at h3 h5 hpr
      rw [hlt s (hCl s hs)] at h5 hpr
      exact h.fol s hs w hw h3 h5 hpr
    · rw [hpe] at hpr; cases hpr
  · intro o ho h4 h7 w hw h3 hor
    rw [hPl] at ho hw
    rcases cl o ho with ho | rfl
    · rw [hlt o ho] at h4 h7
      rcases cl w hw with hw | rfl
      · rw [hlt o ho, hlt w hw] at hor
        rw [hlt w hw] at h3
        exact h.bar o ho h4 h7 w hw h3 hor
      · rcases hor with hor | ⟨_, hor⟩
        · omega
        · rw [hpe] at hor; cases hor
    · rw [hend] at h7; simp [newOp] at h7
  · intro k hk hx
    rw [List.length_append, List.length_singleton] at hk
    by_cases hk2 : k < M.length
    · rw [hMa k hk2] at hx ⊢
      obtain ⟨p1, p2, p3⟩ := h.pos k hk2 hx
      refine ⟨p1, p2, fun w hw h3 hor => ?_⟩
      rw [hPl] at hw
      rw [hlt (base + k) (by omega)] at hor
      rcases cl w hw with hw | rfl
      · rw [hlt w hw] at h3 hor
        exact p3 w hw h3 hor
      · rcases hor with hor | ⟨_, hor⟩
        · omega
        · rw [hpe] at hor; cases hor
    · obtain rfl : k = M.length := by omega
      rw [hMe] at hx; cases hx
  · intro i hi q3 q4 q5 q6
    rw [hPl] at hi
    rcases cl i hi with hi | rfl
    · rw [hlt i hi] at q3 q4 q6 ⊢
      have q5' : base ≤ i → (mAt M (i - base)).ex = true := fun q => by have := q5 q; rwa [hMa _ (by omega)] at this
      obtain ⟨r1, r2, r3⟩ := h.rd i hi q3 q4 q5' q6
      have hL := fun w hw => (r1.wr w hw).1
      refine ⟨⟨fun w hw => ⟨by have := hL w hw; omega, by rw [hlt w (hL w hw)]; exact (r1.wr w hw).2⟩, ordB_keep r1.ord hL (fun i hi => by rw [hlt i hi]) (fun a b ha hb => by rw [hlt a ha, hlt b hb]), fun w hw h3 h5 hpr => ?_, fun w hw h3 h5 => ?_, fun q w hw => ?_⟩, fun q => ?_, fun q => ?_⟩
      · rw [hPl] at hw
        rcases cl w hw with hw | rfl
        · rw [hlt w hw] at h3 h5 hpr; rw [hlt i hi] at h5 hpr; exact r1.same w hw h3 h5 hpr
        · rw [hpe] at hpr; cases hpr
      · rw [hPl] at hw
        rcases cl w hw with hw | rfl
        · rw [hlt w hw] at h3 h5; rw [hlt i hi] at h5; exact r1.old w hw h3 h5
        · rw [hend, hlt i hi] at h5
          have := h.eraLe hi
          simp only [newOp] at h5; omega
      · rw [hlt i hi] at q ⊢; rw [hlt w (hL w hw)]; exact r1.cal q w hw
      · rw [r2 q, lastV_keep (P' := P ++ [newOp e era l.length]) hL (fun i hi => by rw [hlt i hi])]
      · rw [hMa _ (by omega), r3 q, lastV_keep (P' := P ++ [newOp e era l.length]) hL (fun i hi => by rw [hlt i hi])]
    · have := q5 (by omega)
      rw [show P.length - base = M.length by omega, hMe] at this; cases this
end
end Go.Proofs.Ytidghmgaaenihaa.Q

/-! part PSto2 -/
namespace Go.Proofs.Ytidghmgaaenihaa.Q
open Go.RowKit
set_option linter.unusedVariables false
set_option linter.unusedSimpArgs false
section
variable {l : List S39} {P : List S60} {era : Int} {base : Nat} {M : List MOp} {C : List Nat} {safe : Nat} {snap : Nat → List Nat}
theorem SI.doDone (h : SI l P era base M C safe snap) {k : Nat} (hk : k < M.length) (hex : (mAt M k).ex = true) (hdn : (mAt M k).dn = false) {d : S39}
    (hd : d = ⟨2, (mAt M k).call.f1, (mAt M k).call.f2, (mAt M k).call.f3, if (mAt M k).call.f2 = true then (mAt M k).call.f4 else (mAt M k).res, (mAt M k).call.f5⟩) {safe' : Nat}
    (hs : (safe' : Int) = if (mAt M k).call.f5 = true then max (safe : Int) (mAt M k).pos else safe) {o' : MOp} (ho' : o' = { mAt M k with dn := true }) :
    ∃ P', P'.length = P.length ∧ chOf P' C = chOf P C ∧ SI (l ++ [d]) P' era base (M.set k o') C safe' snap := by
  have hl := h.len
  have hx : base + k < P.length := by omega
  have hev := h.mev k hk
  have hat := h.atId hx
  have h7 : (opAt P (base + k)).f7 = -1 := by
    have := h.seq (base + k) hx
    have h0 : ¬ 0 ≤ (opAt P (base + k)).f7 := fun q => by rw [(h.dn k hk).2 q] at hdn; cases hdn
    have := h.call (base + k) hx
    rcases h.seq (base + k) hx with q | ⟨q, _⟩
    · exact q
    · have T : 0 ≤ (opAt P (base + k)).f6 ∧ (opAt P (base + k)).f6 < l.length ∧ 0 ≤ (opAt P (base + k)).f0 := (ptake_inv l l.length h.parse).call _ (opAt_mem (ops := P) hx)
      omega
  have h5 := h.eraHi (base + k) (by omega) hx
  have hc := call_event h.parse (opAt_mem hx)
  have hid := h.id _ hx
  have d1 : d.f1 = ((base + k : Nat) : Int) := by rw [hd, hev]
  have d2 : d.f2 = (opAt P (base + k)).f3 := by rw [hd, hev]
  have d3 : d.f3 = (opAt P (base + k)).f1 := by rw [hd, hev]
  have d5 : d.f5 = (opAt P (base + k)).f4 := by rw [hd, hev]
  have d4 : d.f4 = if (opAt P (base + k)).f3 = true then ((base + k : Nat) : Int) + 1 else (mAt M k).res := by
    rw [hd, hev]; simp only
    cases (opAt P (base + k)).f3 <;> simp
  have c5 : (mAt M k).call.f5 = (opAt P (base + k)).f4 := by rw [hev]
  have hans : answersB d (rd_T39 l (opAt P (base + k)).f6) = true := by
    unfold answersB
    rw [hc.2.1, hc.2.2.1, hc.2.2.2.1, hc.2.2.2.2.1, d1, d2, d3, d5, hid]
    have h4 : (d.f4 == (rd_T39 l (opAt P (base + k)).f6).f4 || (!(opAt P (base + k)).f3 && !(opAt P (base + k)).f4)) = true := by
      cases q3 : (opAt P (base + k)).f3 with
      | true => rw [hc.2.2.2.2.2 q3, d4, if_pos q3, h.val _ hx q3]; simp
      | false =>
        cases q4 : (opAt P (base + k)).f4 with
        | false => simp
        | true =>
          rw [d4, q3, h.resF k hk q3 q4]
          rw [h.cev k hk, hev, q3]
          simp
    simp [h4]
  have hp := parse_done h.parse (e := d) (by rw [hd]) (j := base + k) (by rw [d1]; exact hat) (by omega) h5 hans
  have hat2 : ∀ i, i < P.length → opAt (P.set (base + k) (doneOp (opAt P (base + k)) d l.length)) i = if base + k = i then doneOp (opAt P (base + k)) d l.length else opAt P i := fun i hi => opAt_setE _ _ _ _ hi
  generalize hP' : P.set (base + k) (doneOp (opAt P (base + k)) d l.length) = P' at hp hat2
  have hPl : P'.length = P.length := by rw [← hP']; simp
  have st : ∀ i, i < P.length → (opAt P' i).f0 = (opAt P i).f0 ∧ (opAt P' i).f1 = (opAt P i).f1 ∧ (opAt P' i).f3 = (opAt P i).f3 ∧ (opAt P' i).f4 = (opAt P i).f4 ∧ (opAt P' i).f5 = (opAt P i).f5 ∧ (opAt P' i).f6 = (opAt P i).f6 := by
    intro i hi
    rw [hat2 i hi]
    split
    · rename_i q; subst q; simp [doneOp]
    · simp
  have f7x : (opAt P' (base + k)).f7 = l.length := by rw [hat2 _ hx, if_pos rfl]; rfl
  have f2x : (opAt P' (base + k)).f2 = d.f4 := by rw [hat2 _ hx, if_pos rfl]; rfl
  have ne : ∀ i, i < P.length → i ≠ base + k → opAt P' i = opAt P i := fun i hi q => by rw [hat2 i hi, if_neg (fun e => q e.symm)]
  have pr : ∀ a b, a < P.length → b < P.length → precB (opAt P' a) (opAt P' b) = precB (opAt P a) (opAt P b) := by
    intro a b ha hb
    unfold precB
    rw [(st b hb).2.2.2.2.2]
    by_cases e : a = base + k
    · subst e
      have := h.call b hb
      rw [f7x, h7, decide_eq_false (show ¬ (l.length : Int) < (opAt P b).f6 by omega), decide_eq_false (show ¬ (0 : Int) ≤ -1 by omega)]
      simp
    · rw [ne a ha e]
  have hCl : ∀ w ∈ C, w < P.length := fun w hw => (h.cw w hw).1
  have hMx : mAt (M.set k o') k = { mAt M k with dn := true } := by rw [mAt_set _ _ _ _ hk, if_pos rfl, ho']
  have hMn : ∀ j, j ≠ k → mAt (M.set k o') j = mAt M j := fun j hj => by rw [mAt_set _ _ _ _ hk, if_neg (fun e => hj e.symm)]
  have hMe : ∀ j, (mAt (M.set k o') j).ex = (mAt M j).ex ∧ (mAt (M.set k o') j).call = (mAt M j).call ∧ (mAt (M.set k o') j).res = (mAt M j).res ∧ (mAt (M.set k o') j).pos = (mAt M j).pos := by
    intro j
    by_cases e : j = k
    · subst e; rw [hMx]; simp
    · rw [hMn j e]; simp
  have hsl : safe ≤ safe' := by
    split at hs <;> omega
  refine ⟨P', hPl, chOf_keep hCl (fun i hi => (st i hi).2.1), ?_⟩
  refine ⟨hp, by simp; omega, ?_, ?_, ?_, ?_, ?_, ?_, ?_, ?_, ?_, ?_, ?_, ?_, ?_, ?_, ?_, ?_, ?_, ?_, ?_, ?_⟩
  · intro i hi; rw [hPl] at hi; rw [(st i hi).1]; exact h.id i hi
  · intro i hi h3
    rw [hPl] at hi
    rw [(st i hi).2.2.1] at h3
    by_cases e : i = base + k
    · subst e; rw [f2x, d4, if_pos h3]
    · rw [ne i hi e]; exact h.val i hi h3
  · intro i hb hi; rw [hPl] at hi; rw [(st i hi).2.2.2.2.1]; exact h.eraLo i hb hi
  · intro i hb hi; rw [hPl] at hi; rw [(st i hi).2.2.2.2.1]; exact h.eraHi i hb hi
  · intro i hi
    rw [hPl] at hi
    rw [(st i hi).2.2.2.2.2, List.length_append, List.length_singleton]; have := h.call i hi; omega
  · intro i hi
    rw [hPl] at hi
    rw [(st i hi).2.2.2.2.2, List.length_append, List.length_singleton]
    by_cases e : i = base + k
    · subst e; rw [f7x]; have := h.call _ hi; right; omega
    · rw [ne i hi e]; have := h.seq i hi; omega
  · intro j hj
    rw [List.length_set] at hj
    rw [(hMe j).2.1, (st _ (by omega)).2.1, (st _ (by omega)).2.2.1, (st _ (by omega)).2.2.2.1]
    exact h.mev j hj
  · intro j hj
    rw [List.length_set] at hj
    rw [(hMe j).2.1, (st _ (by omega)).2.2.2.2.2, rd_appI _ _ ((ptake_inv l l.length h.parse).call _ (opAt_mem (ops := P) (by omega))).1 (h.call _ (by omega))]
    exact h.cev j hj
  · intro j hj
    rw [List.length_set] at hj
    by_cases e : j = k
    · subst e; rw [hMx, f7x]; simp
    · rw [hMn j e, ne _ (by omega) (by omega)]; exact h.dn j hj
  · intro j hj hd2
    rw [List.length_set] at hj
    by_cases e : j = k
    · subst e; rw [(hMe j).1]; exact hex
    · rw [hMn j e] at hd2 ⊢; exact h.dnex j hj hd2
  · intro j hj q3 q4
    rw [List.length_set] at hj
    rw [(st _ (by omega)).2.2.1] at q3
    rw [(st _ (by omega)).2.2.2.1] at q4
    rw [(hMe j).2.2.1]; exact h.resF j hj q3 q4
  · intro i hi
    obtain ⟨c1, c2, c3⟩ := h.cw i hi
    exact ⟨by omega, by rw [(st i c1).2.2.1]; exact c2, fun q => by rw [(hMe _).1]; exact c3 q⟩
  · intro i hb hi h3 hx2
    rw [hPl] at hi
    rw [(st i hi).2.2.1] at h3
    rw [(hMe _).1] at hx2
    exact h.cin i hb hi h3 hx2
  · exact ordB_keep h.ord hCl (fun i hi => (st i hi).2.2.2.2.1) pr
  · intro s hs2 w hw h3 h5w hpr
    rw [hPl] at hw
    rw [(st w hw).2.2.1] at h3
    rw [(st w hw).2.2.2.2.1, (st s (hCl s hs2)).2.2.2.2.1] at h5w
    rw [pr w s hw (hCl s hs2)] at hpr
    exact h.fol s hs2 w hw h3 h5w hpr
  · obtain ⟨p1, p2, p3⟩ := h.pos k hk hex
    have := h.sle
    split at hs <;> omega
  · intro w hw hb; exact take_mono hsl (h.frz w hw hb)
  · intro o ho h4 h7o w hw h3 hor
    rw [hPl] at ho hw
    rw [(st o ho).2.2.2.1] at h4
    rw [(st w hw).2.2.1] at h3
    rw [(st w hw).2.2.2.2.1, (st o ho).2.2.2.2.1, pr w o hw ho] at hor
    by_cases e : o = base + k
    · subst e
      obtain ⟨p1, p2, p3⟩ := h.pos k hk hex
      rw [c5, if_pos h4] at hs
      refine take_mono (a := (mAt M k).pos.toNat) (by omega) (p3 w hw h3 ?_)
      rcases hor with hor | ⟨hor, hor2⟩
      · exact .inl hor
      · exact .inr ⟨by rw [hor, h5], hor2⟩
    · rw [ne o ho e] at h7o
      exact take_mono hsl (h.bar o ho h4 h7o w hw h3 hor)
  · intro j hj hx2
    rw [List.length_set] at hj
    rw [(hMe j).1] at hx2
    rw [(hMe j).2.2.2]
    obtain ⟨p1, p2, p3⟩ := h.pos j hj hx2
    refine ⟨p1, p2, fun w hw h3 hor => ?_⟩
    rw [hPl] at hw
    rw [(st w hw).2.2.1] at h3
    rw [(st w hw).2.2.2.2.1, pr w _ hw (by omega)] at hor
    exact p3 w hw h3 hor
  · intro i hi q3 q4 q5 q6
    rw [hPl] at hi
    rw [(st i hi).2.2.1] at q3
    rw [(st i hi).2.2.2.1] at q4
    have q5' : base ≤ i → (mAt M (i - base)).ex = true := fun q => by have := q5 q; rwa [(hMe _).1] at this
    have q6' : i < base → 0 ≤ (opAt P i).f7 := fun q => by have := q6 q; rwa [ne i hi (by omega)] at this
    obtain ⟨r1, r2, r3⟩ := h.rd i hi q3 q4 q5' q6'
    have hL := fun w hw => (r1.wr w hw).1
    have hlk := lastV_keep (P' := P') hL (fun i hi => (st i hi).2.1)
    refine ⟨⟨fun w hw => ⟨by have := hL w hw; omega, by rw [(st w (hL w hw)).2.2.1]; exact (r1.wr w hw).2⟩, ordB_keep r1.ord hL (fun i hi => (st i hi).2.2.2.2.1) pr, fun w hw h3 h5w hpr => ?_, fun w hw h3 h5w => ?_, fun q w hw => ?_⟩, fun q => ?_, fun q => ?_⟩
    · rw [hPl] at hw
      rw [(st w hw).2.2.1] at h3
      rw [(st w hw).2.2.2.2.1, (st i hi).2.2.2.2.1] at h5w
      rw [pr w i hw hi] at hpr
      exact r1.same w hw h3 h5w hpr
    · rw [hPl] at hw
      rw [(st w hw).2.2.1] at h3
      rw [(st w hw).2.2.2.2.1, (st i hi).2.2.2.2.1] at h5w
      exact r1.old w hw h3 h5w
    · rw [(st w (hL w hw)).2.2.2.2.2]
      by_cases e : i = base + k
      · subst e; rw [f7x]; exact h.call w (hL w hw)
      · rw [ne i hi e] at q ⊢; exact r1.cal q w hw
    · rw [hlk, (st i hi).2.1]
      by_cases e : i = base + k
      · subst e
        rw [f2x, d4, q3, if_neg (by decide)]
        have := r3 (by omega)
        rwa [show base + k - base = k by omega] at this
      · rw [ne i hi e] at q ⊢; exact r2 q
    · rw [(hMe _).2.2.1, r3 q, hlk, (st i hi).2.1]
/-- What an operation executes. -/
theorem SI.doExec (h : SI l P era base M C safe snap) {k : Nat} (hk : k < M.length) (hex : (mAt M k).ex = false) {C' : List Nat} (hC' : C' = if (opAt P (base + k)).f3 = true then C ++ [base + k] else C) {o' : MOp}
    (ho' : o' = { mAt M k with ex := true, pos := (C'.length : Int), res := if (!(opAt P (base + k)).f3 && !(opAt P (base + k)).f4) = true then lastV P C' (opAt P (base + k)).f1 else (mAt M k).res }) :
    ∃ snap', SI l P era base (M.set k o') C' safe snap' := by
  have hl := h.len
  have hx : base + k < P.length := by omega
  have hdn : (mAt M k).dn = false := by
    cases q : (mAt M k).dn with
    | false => rfl
    | true => rw [h.dnex k hk q] at hex; cases hex
  have h7 : (opAt P (base + k)).f7 < 0 := by
    have h0 : ¬ 0 ≤ (opAt P (base + k)).f7 := fun q => by rw [(h.dn k hk).2 q] at hdn; cases hdn
    omega
  have h5 := h.eraHi (base + k) (by omega) hx
  have hpx : ∀ b, precB (opAt P (base + k)) b = false := fun b => by unfold precB; rw [decide_eq_false (by omega)]; rfl
  have hCC : ∀ w ∈ C, w ∈ C' := fun w hw => by rw [hC']; split <;> simp [hw]
  have hCl : ∀ w ∈ C, w < P.length := fun w hw => (h.cw w hw).1
  have hCi : ∀ w ∈ C', w ∈ C ∨ (w = base + k ∧ (opAt P (base + k)).f3 = true) := fun w hw => by
    rw [hC'] at hw
    split at hw
    · rename_i q
      rcases List.mem_append.1 hw with hw | hw
      · exact .inl hw
      · exact .inr ⟨by simpa using hw, q⟩
    · exact .inl hw
  have hCt : ∀ n, n ≤ C.length → C'.take n = C.take n := fun n hn => by
    rw [hC']; split
    · rw [List.take_append_of_le_length hn]
    · rfl
  have hCn : C.length ≤ C'.length := by rw [hC']; split <;> simp
  have hMx : mAt (M.set k o') k = o' := by rw [mAt_set _ _ _ _ hk, if_pos rfl]
  have hMn : ∀ j, j ≠ k → mAt (M.set k o') j = mAt M j := fun j hj => by rw [mAt_set _ _ _ _ hk, if_neg (fun e => hj e.symm)]
  have hMc : ∀ j, (mAt (M.set k o') j).call = (mAt M j).call ∧ (mAt (M.set k o') j).dn = (mAt M j).dn := by
    intro j
    by_cases e : j = k
    · subst e; rw [hMx, ho']; simp
    · rw [hMn j e]; simp
  have hMe : ∀ j, (mAt (M.set k o') j).ex = true → j ≠ k → (mAt M j).ex = true := fun j q e => by rwa [hMn j e] at q
  have hrange : ∀ w, w < P.length → (opAt P w).f5 = era → precB (opAt P w) (opAt P (base + k)) = true → (opAt P w).f3 = true → w ∈ C := by
    intro w hw he hp h3
    refine h.doneIn hw h3 he ?_
    unfold precB at hp
    simp at hp
    exact hp.1
  refine ⟨fun i => if i = base + k then C' else snap i, ?_⟩
  refine ⟨h.parse, by simp; omega, h.id, h.val, h.eraLo, h.eraHi, h.call, h.seq, ?_, ?_, ?_, ?_, ?_, ?_, ?_, ?_, ?_, by have := h.sle; omega, ?_, ?_, ?_, ?_⟩
  · intro j hj; rw [List.length_set] at hj; rw [(hMc j).1]; exact h.mev j hj
  · intro j hj; rw [List.length_set] at hj; rw [(hMc j).1]; exact h.cev j hj
  · intro j hj; rw [List.length_set] at hj; rw [(hMc j).2]; exact h.dn j hj
  · intro j hj q
    rw [List.length_set] at hj
    rw [(hMc j).2] at q
    by_cases e : j = k
    · subst e; rw [hMx, ho']
    · rw [hMn j e]; exact h.dnex j hj q
  · intro j hj q3 q4
    rw [List.length_set] at hj
    by_cases e : j = k
    · subst e; rw [hMx, ho', q3, q4]; exact h.resF j hj q3 q4
    · rw [hMn j e]; exact h.resF j hj q3 q4
  · intro i hi
    rcases hCi i hi with hi | ⟨rfl, h3⟩
    · obtain ⟨c1, c2, c3⟩ := h.cw i hi
      refine ⟨c1, c2, fun q => ?_⟩
      by_cases e : i - base = k
      · rw [e, hMx, ho']
      · rw [hMn _ e]; exact c3 q
    · exact ⟨hx, h3, fun _ => by rw [show base + k - base = k by omega, hMx, ho']⟩
  · intro i hb hi h3 hx2
    by_cases e : i - base = k
    · obtain rfl : i = base + k := by omega
      rw [hC', if_pos h3]; simp
    · exact hCC i (h.cin i hb hi h3 (hMe _ hx2 e))
  · rw [hC']
    split
    · rw [List.pairwise_append]
      refine ⟨h.ord, List.pairwise_singleton _ _, fun a ha b hb => ?_⟩
      obtain rfl : b = base + k := by simpa using hb
      exact ⟨hpx _, by rw [h5]; exact h.eraLe (hCl a ha)⟩
    · exact h.ord
  · intro s hs w hw h3 h5w hpr
    rcases hCi s hs with hs | ⟨rfl, _⟩
    · exact hCC w (h.fol s hs w hw h3 h5w hpr)
    · exact hCC w (hrange w hw (by rw [h5w, h5]) hpr h3)
  · intro w hw hb
    rw [hCt _ h.sle]
    rcases hCi w hw with hw | ⟨rfl, _⟩
    · exact h.frz w hw hb
    · omega
  · intro o ho h4 h7o w hw h3 hor
    rw [hCt _ h.sle]
    exact h.bar o ho h4 h7o w hw h3 hor
  · intro j hj hx2
    rw [List.length_set] at hj
    by_cases e : j = k
    · subst e
      rw [hMx, ho']
      simp only
      refine ⟨by omega, by omega, fun w hw h3 hor => ?_⟩
      rw [Int.toNat_natCast, List.take_length]
      rcases hor with rfl | ⟨he, hp⟩
      · rw [hC', if_pos h3]; simp
      · exact hCC w (hrange w hw he hp h3)
    · rw [hMn j e] at hx2 ⊢
      obtain ⟨p1, p2, p3⟩ := h.pos j hj hx2
      exact ⟨p1, by omega, fun w hw h3 hor => by rw [hCt _ (by omega)]; exact p3 w hw h3 hor⟩
  · intro i hi q3 q4 q5 q6
    by_cases e : i = base + k
    · subst e
      simp only [if_true]
      have hCeq : C' = C := by rw [hC', if_neg (by rw [q3]; decide)]
      refine ⟨⟨fun w hw => ?_, by rw [hCeq]; exact h.ord, fun w hw h3 h5w hpr => hCC w (hrange w hw (by rw [h5w, h5]) hpr h3), fun w hw h3 h5w => Iff.rfl, fun q => by omega⟩, fun q => by omega, fun _ => ?_⟩
      · rw [hCeq] at hw; exact ⟨hCl w hw, (h.cw w hw).2.1⟩
      · rw [show base + k - base = k by omega, hMx, ho', q3, q4]; rfl
    · simp only [if_neg e]
      have q5' : base ≤ i → (mAt M (i - base)).ex = true := fun q => hMe _ (q5 q) (by omega)
      obtain ⟨r1, r2, r3⟩ := h.rd i hi q3 q4 q5' q6
      refine ⟨⟨r1.wr, r1.ord, r1.same, fun w hw h3 h5w => ?_, r1.cal⟩, r2, fun q => by rw [hMn _ (by omega)]; exact r3 q⟩
      rw [r1.old w hw h3 h5w]
      refine ⟨hCC w, fun q => ?_⟩
      rcases hCi w q with q | ⟨rfl, _⟩
      · exact q
      · have := h.eraLe hi; omega
/-- A cut: the first k changes are kept. -/
theorem SI.doCut (h : SI l P era base M C safe snap) {k : Nat} (hk : safe ≤ k) (hk2 : k ≤ C.length) : SI (l ++ [cutE]) P (era + 1) P.length [] (C.take k) k snap := by
  have hl := h.len
  have hCl : ∀ w ∈ C, w < P.length := fun w hw => (h.cw w hw).1
  have hsub : ∀ w ∈ C.take k, w ∈ C := fun w hw => List.mem_of_mem_take hw
  have hlen : (C.take k).length = k := by rw [List.length_take]; omega
  have hTT : (C.take k).take k = C.take k := by rw [List.take_take, Nat.min_self]
  refine ⟨parse_cut h.parse, by simp, h.id, h.val, fun i hi _ => by have := h.eraLe hi; omega, fun i hb hi => by omega, ?_, ?_, ?_, ?_, ?_, ?_, ?_, ?_, ?_, ?_, ?_, by omega, ?_, ?_, ?_, ?_⟩
  · intro i hi; rw [List.length_append, List.length_singleton]; have := h.call i hi; omega
  · intro i hi; rw [List.length_append, List.length_singleton]; have := h.seq i hi; omega
  · intro j hj; simp at hj
  · intro j hj; simp at hj
  · intro j hj; simp at hj
  · intro j hj; simp at hj
  · intro j hj; simp at hj
  · intro i hi
    obtain ⟨c1, c2, _⟩ := h.cw i (hsub i hi)
    exact ⟨c1, c2, fun q => by omega⟩
  · intro i hb hi; omega
  · exact h.ord.sublist (List.take_sublist _ _)
  · intro s hs w hw h3 h5w hpr
    have hwC := h.fol s (hsub s hs) w hw h3 h5w hpr
    have hsp : C = C.take k ++ C.drop k := (List.take_append_drop k C).symm
    rw [hsp] at hwC
    rcases List.mem_append.1 hwC with q | q
    · exact q
    · have ho := h.ord
      rw [hsp, List.pairwise_append] at ho
      have := (ho.2.2 s hs w q).1
      rw [this] at hpr; cases hpr
  · intro w hw hb; rw [hTT]; exact hw
  · intro o ho h4 h7o w hw h3 hor
    rw [hTT]
    exact take_mono hk (h.bar o ho h4 h7o w hw h3 hor)
  · intro j hj; simp at hj
  · intro i hi q3 q4 q5 q6
    have h7 := q6 hi
    have q5' : base ≤ i → (mAt M (i - base)).ex = true := fun q => h.dnex _ (by omega) ((h.dn _ (by omega)).2 (by rw [show base + (i - base) = i by omega]; exact h7))
    obtain ⟨r1, r2, r3⟩ := h.rd i hi q3 q4 q5' (fun _ => h7)
    refine ⟨⟨r1.wr, r1.ord, r1.same, fun w hw h3 h5w => ?_, r1.cal⟩, r2, fun q => by omega⟩
    rw [r1.old w hw h3 h5w]
    refine ⟨fun q => ?_, hsub w⟩
    have hwb : w < base := by
      by_cases q2 : base ≤ w
      · have := h.eraHi w q2 hw; have := h.eraLe hi; omega
      · omega
    exact take_mono hk (h.frz w q hwb)
end
end Go.Proofs.Ytidghmgaaenihaa.Q

/-! part PSto3 -/
namespace Go.Proofs.Ytidghmgaaenihaa.Q
open Go.RowKit
set_option linter.unusedVariables false
set_option linter.unusedSimpArgs false
def okAct47 (x : S100) : Prop := (0 ≤ x.f0 ∧ x.f0 < 256) ∧ (0 ≤ x.f1 ∧ x.f1 < 256) ∧ (0 ≤ x.f2 ∧ x.f2 < 256)
def StoOk (s : MS) : Prop := ∃ P era base C safe snap, SI s.l P era base s.ops C safe snap ∧ s.ch = chOf P C ∧ s.safe = (safe : Nat) ∧ s.n = P.length
theorem stoE_proper (a : S100) (ha : okAct47 a) (n : Nat) : properB (stoE a n) = true := by
  obtain ⟨a0, a1, a2⟩ := a
  obtain ⟨h0, h1, h2⟩ := ha
  simp only at h0 h1 h2
  unfold properB stoE
  simp only
  have hk : a0 % 8 = 1 ∨ a0 % 8 = 2 ∨ a0 % 8 = 3 ∨ (a0 % 8 ≠ 1 ∧ a0 % 8 ≠ 2 ∧ a0 % 8 ≠ 3) := by omega
  have hr := Int.emod_nonneg a1 (show (4 : Int) ≠ 0 by decide)
  rw [if_neg (by omega)]
  rcases hk with h | h | h | ⟨h, h3, h4⟩
  · simp [h]; omega
  · simp [h]; omega
  · simp [h]
  · simp [h, h3, h4]; omega
theorem stoX_ok {s : MS} (h : StoOk s) {j : Nat} (hj : j < s.ops.length) (hex : (mAt s.ops j).ex = false) : StoOk (stoX s j) := by
  obtain ⟨P, era, base, C, safe, snap, hI, hch, hs, hn⟩ := h
  have hev := hI.mev j hj
  obtain ⟨C', hC'⟩ : ∃ C', C' = if (opAt P (base + j)).f3 = true then C ++ [base + j] else C := ⟨_, rfl⟩
  have hch2 : (if (mAt s.ops j).call.f2 = true then s.ch ++ [((mAt s.ops j).call.f3, (mAt s.ops j).call.f4)] else s.ch) = chOf P C' := by
    rw [hev, hC', hch]
    simp only
    cases h3 : (opAt P (base + j)).f3 with
    | true => simp [chOf]
    | false => simp
  obtain ⟨snap', hI'⟩ := hI.doExec hj hex hC' (o' := { mAt s.ops j with ex := true, pos := ((if (mAt s.ops j).call.f2 = true then s.ch ++ [((mAt s.ops j).call.f3, (mAt s.ops j).call.f4)] else s.ch).length : Int), res := if (!(mAt s.ops j).call.f2 && !(mAt s.ops j).call.f5) = true then valM (if (mAt s.ops j).call.f2 = true then s.ch ++ [((mAt s.ops j).call.f3, (mAt s.ops j).call.f4)] else s.ch) (mAt s.ops j).call.f3 else (mAt s.ops j).res }) (by
    rw [hch2, val_last, hev]
    simp [chOf])
  exact ⟨P, era, base, C', safe, snap', hI', hch2, hs, hn⟩
theorem stoD_ok {s : MS} (h : StoOk s) {j : Nat} (hj : j < s.ops.length) (hex : (mAt s.ops j).ex = true) (hdn : (mAt s.ops j).dn = false) : StoOk (stoD s j) := by
  obtain ⟨P, era, base, C, safe, snap, hI, hch, hs, hn⟩ := h
  obtain ⟨p1, p2, _⟩ := hI.pos j hj hex
  obtain ⟨P', h1, h2, h3⟩ := hI.doDone hj hex hdn rfl (safe' := if (mAt s.ops j).call.f5 = true then max safe (mAt s.ops j).pos.toNat else safe) (by split <;> omega) rfl
  refine ⟨P', era, base, C, _, snap, h3, by rw [h2]; exact hch, ?_, by rw [h1]; exact hn⟩
  show (if (mAt s.ops j).call.f5 = true then max s.safe (mAt s.ops j).pos else s.safe) = _
  rw [hs]
  split <;> omega
theorem stoC_ok {s : MS} (h : StoOk s) {a : S100} (ha : okAct47 a) : StoOk (stoC s a) := by
  obtain ⟨P, era, base, C, safe, snap, hI, hch, hs, hn⟩ := h
  have hsl := hI.sle
  have hcl : s.ch.length = C.length := by rw [hch]; simp [chOf]
  have hm0 := Int.emod_nonneg a.f2 (show (s.ch.length : Int) - s.safe + 1 ≠ 0 by omega)
  have hm1 := Int.emod_lt_of_pos a.f2 (show (0 : Int) < (s.ch.length : Int) - s.safe + 1 by omega)
  obtain ⟨k, hk⟩ : ∃ k : Nat, s.safe + a.f2 % ((s.ch.length : Int) - s.safe + 1) = k := ⟨(s.safe + a.f2 % ((s.ch.length : Int) - s.safe + 1)).toNat, by omega⟩
  have hI' := hI.doCut (k := k) (by omega) (by omega)
  refine ⟨P, era + 1, P.length, C.take k, k, snap, ?_, ?_, hk, hn⟩
  · exact hI'
  · show s.ch.take (s.safe + a.f2 % ((s.ch.length : Int) - s.safe + 1)).toNat = _
    rw [hk, Int.toNat_natCast, hch]
    simp [chOf, List.map_take]
theorem stoJ_lt {s : MS} {a : S100} (h : s.ops.length ≠ 0) : stoJ s a < s.ops.length := by
  unfold stoJ
  rw [if_neg h]
  have h0 := Int.emod_nonneg a.f2 (show (s.ops.length : Int) ≠ 0 by omega)
  have h1 := Int.emod_lt_of_pos a.f2 (show (0 : Int) < (s.ops.length : Int) by omega)
  omega
theorem stoStep_ok {s : MS} (h : StoOk s) {a : S100} (ha : okAct47 a) : StoOk (stoStep s a) := by
  unfold stoStep
  split
  · obtain ⟨P, era, base, C, safe, snap, hI, hch, hs, hn⟩ := h
    have hI2 := hI.doCall (e := stoE a s.n) rfl (by rw [hn]; rfl) (by rw [hn]; exact stoE_proper a ha _) (by rw [hn]; rfl)
    obtain ⟨P', h1, h2, h3⟩ := hI2
    exact ⟨P', era, base, C, safe, snap, h3, by rw [h2]; exact hch, hs, by rw [h1]; simp only; omega⟩
  · split
    · split
      · exact h
      · rename_i h0
        split
        · exact h
        · rename_i h1
          exact stoX_ok h (stoJ_lt h0) (by simpa using h1)
    · split
      · split
        · exact h
        · rename_i h0
          split
          · rename_i h1
            split
            · exact h
            · rename_i h2
              exact stoD_ok h (stoJ_lt h0) h1 (by simpa using h2)
          · exact h
      · exact stoC_ok h ha
theorem stoN_ok {script : List S100} (hs : ∀ a ∈ script, okAct47 a) : ∀ x, x ≤ script.length → StoOk (stoN script x)
  | 0, _ => ⟨[], 0, 0, [], 0, fun _ => [], SI.zero, rfl, rfl, rfl⟩
  | x + 1, hx => by
    have ih := stoN_ok hs x (by omega)
    unfold stoN at ih ⊢
    rw [List.take_succ_eq_append_getElem (by omega), List.foldl_append]
    exact stoStep_ok ih (hs _ (List.getElem_mem _))

theorem prec_era {l : List S39} {s : List S60 × Int} (hs : parseP l = some s) {a b : S60} (ha : a ∈ s.1) (hb : b ∈ s.1) (h : precB a b = true) : a.f5 ≤ b.f5 := by
  have T := parse_tinv hs
  obtain ⟨i, _, i6, _, _, i5, _⟩ := T.ops a ha
  obtain ⟨j, _, j6, _, _, j5, _⟩ := T.ops b hb
  have hq := T.seq a ha
  unfold precB at h
  simp only [Bool.and_eq_true, decide_eq_true_eq] at h
  have hij : i ≤ j := by omega
  have : cutsN (l.take i) ≤ cutsN (l.take j) := by
    unfold cutsN
    refine ((List.Sublist.filter _ ?_)).length_le
    rw [show l.take i = (l.take j).take i by rw [List.take_take, Nat.min_eq_left hij]]
    exact List.take_sublist _ _
  omega
/-! What holds of the end. -/
section
variable {l : List S39} {P : List S60} {era : Int} {base : Nat} {M : List MOp} {C : List Nat} {safe : Nat} {snap : Nat → List Nat}
theorem lastV_cases (P : List S60) (L : List Nat) (r : Int) : (lastV P L r = 0 ∧ ∀ i ∈ L, (opAt P i).f1 ≠ r) ∨ ∃ (a : List Nat) (s : Nat) (b : List Nat), L = a ++ s :: b ∧ (opAt P s).f1 = r ∧ lastV P L r = (s : Int) + 1 ∧ ∀ i ∈ b, (opAt P i).f1 ≠ r := by
  obtain ⟨n, hn⟩ : ∃ n, L.length = n := ⟨_, rfl⟩
  induction n generalizing L with
  | zero =>
    obtain rfl := List.eq_nil_of_length_eq_zero hn
    exact .inl ⟨rfl, by simp⟩
  | succ n ih0 =>
    rcases List.eq_nil_or_concat L with rfl | ⟨L, i, rfl⟩
    · cases hn
    rw [List.concat_eq_append] at hn ⊢
    have ih := ih0 L (by simpa using hn)
    have e : lastV P (L ++ [i]) r = if (opAt P i).f1 = r then (i : Int) + 1 else lastV P L r := by unfold lastV; rw [List.foldl_append]; rfl
    by_cases h : (opAt P i).f1 = r
    · exact .inr ⟨L, i, [], rfl, h, by rw [e, if_pos h], by simp⟩
    · rcases ih with ⟨h1, h2⟩ | ⟨a, s, b, h1, h2, h3, h4⟩
      · exact .inl ⟨by rw [e, if_neg h, h1], fun j hj => by
          rcases List.mem_append.1 hj with hj | hj
          · exact h2 j hj
          · obtain rfl : j = i := by simpa using hj
            exact h⟩
      · exact .inr ⟨a, s, b ++ [i], by rw [h1]; simp, h2, by rw [e, if_neg h, h3], fun j hj => by
          rcases List.mem_append.1 hj with hj | hj
          · exact h4 j hj
          · obtain rfl : j = i := by simpa using hj
            exact h⟩
theorem SI.src (h : SI l P era base M C safe snap) {s : Nat} (hs : s < P.length) (h3 : (opAt P s).f3 = true) : srcIx P (opAt P s).f1 ((s : Int) + 1) = some s := by
  unfold srcIx
  refine List.findIdx?_eq_some_iff_getElem.2 ⟨hs, ?_, fun j hj => ?_⟩
  · rw [← opAt_get hs]; simp [isSrc, h3, h.val s hs h3]
  · rw [← opAt_get (by omega)]
    simp only [isSrc]
    cases h3j : (opAt P j).f3 with
    | false => simp
    | true =>
      have := h.val j (by omega) h3j
      have : ¬ (opAt P j).f2 = (s : Int) + 1 := by omega
      simp [this]
theorem SI.trace (h : SI l P era base M C safe snap) : traceR l = true := by
  unfold traceR traceQ opsP
  rw [h.parse]
  simp only
  have : (List.range P.length).any (badAt P) = false := by
    rw [List.any_eq_false]
    intro i hi
    have hi := List.mem_range.1 hi
    unfold badAt
    cases h3 : (opAt P i).f3 with
    | false => simp
    | true =>
      have hv := h.val i hi h3
      have h0 : ((opAt P i).f2 == 0) = false := by simp; omega
      have ht : (List.range i).any (twin P i) = false := by
        rw [List.any_eq_false]
        intro k hk
        have hk := List.mem_range.1 hk
        unfold twin
        cases h3k : (opAt P k).f3 with
        | false => simp
        | true =>
          have := h.val k (by omega) h3k
          have : ¬ (opAt P k).f2 = (opAt P i).f2 := by omega
          simp [this]
      simp [h0, ht]
  rw [this]; rfl
/-- A write that survives for certain is among the changes. -/
theorem SI.surv (h : SI l P era base M C safe snap) {w : Nat} (hw : w < P.length) (h3 : (opAt P w).f3 = true) (hs : survR P w = true) : w ∈ C := by
  have seen : ∀ v, v < P.length → (opAt P v).f3 = true → seenR P v = true → v ∈ C := by
    intro v hv h3v hse
    unfold seenR at hse
    obtain ⟨o, ho, hb⟩ := List.any_eq_true.1 hse
    obtain ⟨i, hi, rfl⟩ := mem_opAt ho
    unfold seenB ansB at hb
    simp only [Bool.and_eq_true, Bool.not_eq_true', decide_eq_true_eq] at hb
    obtain ⟨⟨⟨q3, q4⟩, q7⟩, q5, qs⟩ := hb
    rw [srcI_eq] at qs
    obtain ⟨qv, qi⟩ := src_lt qs
    unfold isSrc at qi
    simp only [Bool.and_eq_true, beq_iff_eq] at qi
    have hex : base ≤ i → (mAt M (i - base)).ex = true := fun q => by
      have hl := h.len
      exact h.dnex _ (by omega) ((h.dn _ (by omega)).2 (by rw [show base + (i - base) = i by omega]; exact q7))
    obtain ⟨r1, r2, _⟩ := h.rd i hi q3 q4 hex (fun _ => q7)
    refine (r1.old v hv h3v q5).1 ?_
    have hval := r2 q7
    have hvv := h.val v hv h3v
    rcases lastV_cases P (snap i) (opAt P i).f1 with ⟨z, _⟩ | ⟨a, s, b, e1, e2, e3, _⟩
    · rw [z] at hval; omega
    · have : s = v := by omega
      subst this
      rw [e1]; simp
  unfold survR at hs
  split at hs
  · cases hs
  · rename_i h7
    split at hs
    · rename_i h4
      exact List.mem_of_mem_take (h.bar w hw h4 (by omega) w hw h3 (.inl rfl))
    · split at hs
      · rename_i hse
        exact seen w hw h3 hse
      · obtain ⟨i, hi, hb⟩ := List.any_eq_true.1 hs
        have hi := List.mem_range.1 hi
        unfold survAt at hb
        simp only [Bool.and_eq_true, beq_iff_eq, Bool.or_eq_true, decide_eq_true_eq] at hb
        obtain ⟨q5, qp, qq⟩ := hb
        rcases qq with ⟨q4, q7⟩ | ⟨q3, qse⟩
        · exact List.mem_of_mem_take (h.bar i hi q4 q7 w hw h3 (.inr ⟨q5.symm, qp⟩))
        · exact h.fol i (seen i hi q3 qse) w hw h3 q5.symm qp
/-- No write makes an answered read stale. -/
theorem SI.fresh (h : SI l P era base M C safe snap) {i : Nat} (hi : i < P.length) (hans : ansB (opAt P i) = true) : 
    (srcI P (opAt P i).f1 (opAt P i).f2 < 0 → (opAt P i).f2 = 0) ∧ (∀ s : Nat, srcI P (opAt P i).f1 (opAt P i).f2 = s → (opAt P s).f6 ≤ (opAt P i).f7) ∧
    (∀ w, w < P.length → (opAt P w).f3 = true → (opAt P w).f1 = (opAt P i).f1 → precB (opAt P w) (opAt P i) = true → ((opAt P w).f5 = (opAt P i).f5 ∨ w ∈ C) → ((w : Int) == srcI P (opAt P i).f1 (opAt P i).f2) = false → hideR P (srcI P (opAt P i).f1 (opAt P i).f2) (opAt P w) = true → False) := by
  unfold ansB at hans
  simp only [Bool.and_eq_true, Bool.not_eq_true', decide_eq_true_eq] at hans
  obtain ⟨⟨q3, q4⟩, q7⟩ := hans
  have hl := h.len
  have hex : base ≤ i → (mAt M (i - base)).ex = true := fun q =>
    h.dnex _ (by omega) ((h.dn _ (by omega)).2 (by rw [show base + (i - base) = i by omega]; exact q7))
  obtain ⟨r1, r2, _⟩ := h.rd i hi q3 q4 hex (fun _ => q7)
  have hval := r2 q7
  have inL : ∀ w, w < P.length → (opAt P w).f3 = true → precB (opAt P w) (opAt P i) = true → ((opAt P w).f5 = (opAt P i).f5 ∨ w ∈ C) → w ∈ snap i := by
    intro w hw h3 hp hor
    by_cases he : (opAt P w).f5 = (opAt P i).f5
    · exact r1.same w hw h3 he hp
    · rcases hor with hor | hor
      · exact absurd hor he
      · -- an older era
        have hlt : (opAt P w).f5 < (opAt P i).f5 := by
          have : (opAt P w).f5 ≤ (opAt P i).f5 := prec_era (s := (P, era)) h.parse (opAt_mem (ops := P) hw) (opAt_mem (ops := P) hi) hp
          omega
        exact (r1.old w hw h3 hlt).2 hor
  rcases lastV_cases P (snap i) (opAt P i).f1 with ⟨z, hz⟩ | ⟨a, s, b, e1, e2, e3, e4⟩
  · rw [z] at hval
    have hsrc : srcI P (opAt P i).f1 (opAt P i).f2 = -1 := by
      unfold srcI idxOf
      cases hx : P.findIdx? (isSrc (opAt P i).f1 (opAt P i).f2) with
      | none => rfl
      | some k =>
        obtain ⟨k1, k2⟩ := src_lt (show srcIx P (opAt P i).f1 (opAt P i).f2 = some k from hx)
        unfold isSrc at k2
        simp only [Bool.and_eq_true, beq_iff_eq] at k2
        have := h.val k k1 k2.1
        omega
    rw [hsrc]
    refine ⟨fun _ => hval, fun s hs => by omega, fun w hw h3 h1 hp hor _ _ => hz w (inL w hw h3 hp hor) h1⟩
  · obtain ⟨hsl, hs3⟩ := r1.wr s (by rw [e1]; simp)
    have hsrc : srcI P (opAt P i).f1 (opAt P i).f2 = (s : Int) := by
      have := h.src hsl hs3
      unfold srcIx at this
      unfold srcI idxOf
      rw [hval, e3, ← e2, this]
    rw [hsrc]
    refine ⟨fun q => by omega, fun s' hs' => ?_, fun w hw h3 h1 hp hor hne hh => ?_⟩
    · obtain rfl : s' = s := by omega
      have := r1.cal q7 s' (by rw [e1]; simp)
      omega
    · have hwL := inL w hw h3 hp hor
      rw [e1] at hwL
      have hnw0 : ¬ (w : Int) = (s : Int) := by simpa using hne
      have hnw : w ≠ s := by omega
      rcases List.mem_append.1 hwL with hwa | hwb
      · have ho := r1.ord
        rw [e1, List.pairwise_append] at ho
        obtain ⟨o1, o2⟩ := ho.2.2 w hwa s (List.mem_cons_self ..)
        unfold hideR at hh
        rw [Int.toNat_natCast, o1, decide_eq_false (show ¬ (s : Int) < 0 by omega)] at hh
        simp at hh
        omega
      · rcases List.mem_cons.1 hwb with q | q
        · exact hnw q
        · exact e4 w q h1
theorem SI.noFault (h : SI l P era base M C safe snap) {i : Nat} (hi : i < P.length) : faultQ P i = none := by
  unfold faultQ
  split
  · rename_i hans
    obtain ⟨f1, f2, f3⟩ := h.fresh hi hans
    have hst : staleF P (opAt P i) (srcI P (opAt P i).f1 (opAt P i).f2) = none := by
      unfold staleF
      rw [if_neg]
      unfold firstI
      split
      · rename_i w hw
        obtain ⟨hw1, hw2⟩ := List.find?_some hw, List.mem_of_find?_eq_some hw
        exfalso
        have hwl := List.mem_range.1 (List.mem_of_find?_eq_some hw)
        have hst := List.find?_some hw
        unfold staleAt finalR at hst
        simp only [Bool.and_eq_true, beq_iff_eq, Bool.or_eq_true, Bool.not_eq_true'] at hst
        obtain ⟨q3, q1, qne, ⟨qp, qor⟩, qh⟩ := hst
        refine f3 w hwl q3 q1 qp ?_ qne qh
        rcases qor with q | q
        · exact .inl q
        · exact .inr (h.surv hwl q3 q)
      · omega
    unfold faultF
    split
    · rename_i hneg
      rw [if_pos (f1 hneg), hst]
    · rename_i hneg
      obtain ⟨s, hs⟩ : ∃ s : Nat, srcI P (opAt P i).f1 (opAt P i).f2 = s := ⟨(srcI P (opAt P i).f1 (opAt P i).f2).toNat, by omega⟩
      rw [hs, Int.toNat_natCast, if_neg (by have := f2 s hs; omega), ← hs, hst]
  · rfl
end
end Go.Proofs.Ytidghmgaaenihaa.Q

/-! part Q59 -/
namespace Go.Proofs.Ytidghmgaaenihaa.Q
open Go.RowKit Go.Proofs.YtidghmgaaenihaaW.PrintWords Go.Proofs.YtidghmgaaenihaaW.PrintLast Go.Proofs.YtidghmgaaenihaaW.PrintMore
attribute [local go_sem] max2_int min2_int max_two min_two max_three min_three max_four min_four
set_option linter.unusedVariables false
set_option linter.unusedSimpArgs false

/-! ### tegularef47_value: function 59 -/
def tegularef47_value.l0 : Nat → List (S104) → Int → Int → Int → Option (Int)
  | 0, _, _, _, _ => none
  | k + 1, x0, x1, x5, x6 => if x6 < (x0.length : Int) then (if 0 ≤ x6 then (if ((rd_T104 x0 x6).f0) = x1 then (tegularef47_value.l0 k x0 x1 ((rd_T104 x0 x6).f1) (wrap64 (x6 + 1))) else (tegularef47_value.l0 k x0 x1 x5 (wrap64 (x6 + 1)))) else (none)) else (some x5)
def tegularef47_value.f (k : Nat) (l0 : List (S104)) (a1 : Int) : Option (Int) := tegularef47_value.l0 k l0 a1 0 0
theorem tegularef47_value.mono_l : ∀ k, (∀ y0 y1 y2 y3, LeO (tegularef47_value.l0 k y0 y1 y2 y3) (tegularef47_value.l0 (k + 1) y0 y1 y2 y3))
  | 0 => fun _ _ _ _ r h => by simp [tegularef47_value.l0] at h
  | k + 1 => by
    have ih0 := tegularef47_value.mono_l k
    · intro y0 y1 y2 y3
      unfold tegularef47_value.l0
      repeat' first
      | (with_reducible exact ih0 _ _ _ _)
      | (with_reducible exact LeO.refl _)
      | (with_reducible exact LeO.none _)
      | (with_reducible refine LeO.ite ?_ ?_)
      | (with_reducible refine LeO.bind ?_ (fun _ => ?_))
      | exact ih0 _ _ _ _
      | exact LeO.none _
      | refine LeO.ite ?_ ?_
      | refine LeO.bind ?_ (fun _ => ?_)
theorem tegularef47_value.mono : ∀ a0 a1 k, LeO (tegularef47_value.f k a0 a1) (tegularef47_value.f (k + 1) a0 a1) := by
  intro a0 a1 k
  have ih0 := tegularef47_value.mono_l k
  unfold tegularef47_value.f
  repeat' first
      | (with_reducible exact ih0 _ _ _ _)
      | (with_reducible exact LeO.refl _)
      | (with_reducible exact LeO.none _)
      | (with_reducible refine LeO.ite ?_ ?_)
      | (with_reducible refine LeO.bind ?_ (fun _ => ?_))
      | exact ih0 _ _ _ _
      | exact LeO.none _
      | refine LeO.ite ?_ ?_
      | refine LeO.bind ?_ (fun _ => ?_)
set_option maxHeartbeats 8000000 in
set_option maxRecDepth 100000 in
theorem tegularef47_value.calls (k : Nat) (A0 : Option Addr) (c0 : Nat) (l0 : List (S104)) (a1 : Int) (r : Int) (w : World) (hr0 : Kd.C k104 w A0 l0.length l0) (hc0 : l0.length ≤ c0) (h : tegularef47_value.f k l0 a1 = some r) :
    Calls Try.prog 59 #[.slice A0 l0.length c0, .int .i64 a1] w fun e w' => e = .returned (.int .i64 r) ∧ Drawn0 w w' := by
  have HR0 := Aside0.mk hr0
  have HC0 := Aside0.mk hc0
  clear hr0 hc0
  have H : (tegularef47_value.l0 k l0 a1 0 0) = some r := h
  clear h
  have H' := Aside0.mk H
  clear H
  go_enter Try.func59, Try.ntmps59
  go_wp2
  go_loopg [5, 6] k (fun kq v5 v6 w' => ∃ (x5_1 : Int) (x6_1 : Int), v5 = .int .i64 x5_1 ∧ v6 = .int .i64 x6_1 ∧ Aside0 (tegularef47_value.l0 kq l0 a1 x5_1 x6_1 = some r) ∧ Aside0 (kq ≤ k) ∧ Drawn0 w w')
  case atStart => exact ⟨(0), (0), (by first | rfl | (simp; done) | (simp [*]; done)), (by first | rfl | (simp; done) | (simp [*]; done)), H', ⟨Nat.le_refl _⟩, by repeat (first | exact Drawn0.refl _ | apply Drawn0.step)⟩
  case round =>
    clear H'
    try clear p2
    obtain ⟨x5_1, x6_1, rfl, rfl, HA, HK1, ⟨m1, rfl⟩⟩ := hrel
    cases gk with
    | zero => exact absurd HA.out (by simp [tegularef47_value.l0])
    | succ k1 =>
      have H := HA.out
      clear HA
      simp only [tegularef47_value.l0] at H
      by_cases c3 : x6_1 < (l0.length : Int)
      · rw [if_pos c3] at H
        have c3b0 : decide (x6_1 < (l0.length : Int)) = true := decide_eq_true c3
        clear c3
        by_cases c4 : 0 ≤ x6_1
        · rw [if_pos c4] at H
          have c4b0 : decide (0 ≤ x6_1) = true := decide_eq_true c4
          clear c4
          by_cases c5 : ((rd_T104 l0 x6_1).f0) = a1
          · rw [if_pos c5] at H
            have c5b0 : (((rd_T104 l0 x6_1).f0) == a1) = true := beq_iff_eq.mpr c5
            have c5b1 : (((rd_T104 l0 x6_1).f0) != a1) = false := bne_eq_false_iff_eq.mpr c5
            clear c5
            have H' := Aside0.mk H
            clear H
            have p325 : 0 ≤ (x6_1 : Int) := of_decide_eq_true (by first | (with_reducible assumption) | assumption)
            have q325 : x6_1 < (l0.length : Int) := of_decide_eq_true (by first | (with_reducible assumption) | assumption)
            obtain ⟨ad325, e325, hx325_0, hx325_1⟩ := at_T104 HR0.out x6_1 p325 q325
            cases e325
            replace p325 := eq_true p325
            replace q325 := eq_true q325
            have p326 : 0 ≤ (x6_1 : Int) := of_decide_eq_true (by first | (with_reducible assumption) | assumption)
            have q326 : x6_1 < (l0.length : Int) := of_decide_eq_true (by first | (with_reducible assumption) | assumption)
            obtain ⟨ad326, e326, hx326_0, hx326_1⟩ := at_T104 HR0.out x6_1 p326 q326
            obtain rfl : ad325 = ad326 := (by injection e326)
            replace p326 := eq_true p326
            replace q326 := eq_true q326
            go_wp2
            go_roundg k1
            case measure => have := HK1.out; omega
            case rel => exact ⟨((rd_T104 l0 x6_1).f1), (wrap64 (x6_1 + 1)), (by first | rfl | (simp; done) | (simp [*]; done)), (by first | rfl | (simp; done) | (simp [*]; done)), H', ⟨by have := HK1.out; omega⟩, by repeat (first | exact Drawn0.refl _ | apply Drawn0.step)⟩
          · rw [if_neg c5] at H
            have c5b0 : (((rd_T104 l0 x6_1).f0) == a1) = false := beq_eq_false_iff_ne.mpr c5
            have c5b1 : (((rd_T104 l0 x6_1).f0) != a1) = true := bne_iff_ne.mpr c5
            have H' := Aside0.mk H
            clear H
            have p325 : 0 ≤ (x6_1 : Int) := of_decide_eq_true (by first | (with_reducible assumption) | assumption)
            have q325 : x6_1 < (l0.length : Int) := of_decide_eq_true (by first | (with_reducible assumption) | assumption)
            obtain ⟨ad325, e325, hx325_0, hx325_1⟩ := at_T104 HR0.out x6_1 p325 q325
            cases e325
            replace p325 := eq_true p325
            replace q325 := eq_true q325
            go_wp2
            go_roundg k1
            case measure => have := HK1.out; omega
            case rel => exact ⟨(x5_1), (wrap64 (x6_1 + 1)), (by first | rfl | (simp; done) | (simp [*]; done)), (by first | rfl | (simp; done) | (simp [*]; done)), H', ⟨by have := HK1.out; omega⟩, by repeat (first | exact Drawn0.refl _ | apply Drawn0.step)⟩
        · rw [if_neg c4] at H
          exact absurd H (by simp)
      · rw [if_neg c3] at H
        have c3b0 : decide (x6_1 < (l0.length : Int)) = false := decide_eq_false c3
        clear c3
        obtain rfl := Option.some.inj H
        go_wp2
        go_ret
        exact ⟨by first | rfl | (simp; done) | (simp [*]; done), by repeat (first | exact Drawn0.refl _ | apply Drawn0.step)⟩

end Go.Proofs.Ytidghmgaaenihaa.Q

/-! part KSto -/
namespace Go.Proofs.Ytidghmgaaenihaa.Q
open Go.RowKit Go.Proofs.YtidghmgaaenihaaW.PrintWords Go.Proofs.YtidghmgaaenihaaW.PrintLast Go.Proofs.YtidghmgaaenihaaW.PrintMore
set_option linter.unusedVariables false
set_option linter.unusedSimpArgs false
theorem info102 : (Try.prog.info? 102).map (fun i => (i.zero, i.size, i.bytes)) = some (some (.agg #[(.int .i64 0), (.int .i64 0), (.bool false), (.int .i64 0), (.int .i64 0), (.bool false), (.bool false), (.bool false), (.int .i64 0), (.int .i64 0)]), 10, 72) := by kernel_rfl
theorem info104 : (Try.prog.info? 104).map (fun i => (i.zero, i.size, i.bytes)) = some (some (.agg #[(.int .i64 0), (.int .i64 0)]), 2, 16) := by kernel_rfl
def k102 : Kd MOp := Kd.iso (Kd.pair k39 (Kd.pair Kd.bool (Kd.pair Kd.bool (Kd.pair (Kd.int .i64) (Kd.int .i64))))) (fun x : MOp => (x.call, x.ex, x.dn, x.res, x.pos))
theorem k102_openM {w : World} {base : Nat} {ok : Nat → Prop} {x : MOp} {cs : List Value} (h : k102.M w base ok x cs) : cs = [.int .i64 x.call.f0, .int .i64 x.call.f1, .bool x.call.f2, .int .i64 x.call.f3, .int .i64 x.call.f4, .bool x.call.f5, .bool x.ex, .bool x.dn, .int .i64 x.res, .int .i64 x.pos] := by
  obtain ⟨_, _, rfl, s0, ⟨_, _, rfl, rfl, ⟨_, _, rfl, rfl, ⟨_, _, rfl, rfl, rfl⟩⟩⟩⟩ := h
  obtain rfl := k39_openM s0
  exact rfl
theorem k102_mkM (w : World) (base : Nat) (ok : Nat → Prop) (x : MOp)  : k102.M w base ok x [.int .i64 x.call.f0, .int .i64 x.call.f1, .bool x.call.f2, .int .i64 x.call.f3, .int .i64 x.call.f4, .bool x.call.f5, .bool x.ex, .bool x.dn, .int .i64 x.res, .int .i64 x.pos] := ⟨[.int .i64 x.call.f0, .int .i64 x.call.f1, .bool x.call.f2, .int .i64 x.call.f3, .int .i64 x.call.f4, .bool x.call.f5], [.bool x.ex, .bool x.dn, .int .i64 x.res, .int .i64 x.pos], rfl, (k39_mkM w base ok x.call ), ⟨[.bool x.ex], [.bool x.dn, .int .i64 x.res, .int .i64 x.pos], rfl, rfl, ⟨[.bool x.dn], [.int .i64 x.res, .int .i64 x.pos], rfl, rfl, ⟨[.int .i64 x.res], [.int .i64 x.pos], rfl, rfl, rfl⟩⟩⟩⟩
def mopCells (o : MOp) : List Value := [.int .i64 o.call.f0, .int .i64 o.call.f1, .bool o.call.f2, .int .i64 o.call.f3, .int .i64 o.call.f4, .bool o.call.f5, .bool o.ex, .bool o.dn, .int .i64 o.res, .int .i64 o.pos]
section
variable {ops : Array Oper} {rest : List Oper} {o : Oper} {a : Act} {Q : Exit → Act → World → Prop}
/-- A store into a field of an operation in the storage's row. -/
theorem at_mop {W w0 : World} {base n cap : Nat} {ok : Nat → Prop} {ad : Addr} {O : List MOp} (hN : o.dst = none) (hgd : o.guard = none) (t : TypeId) (p x : Operand) (ho : o.op = .store t p x) (j i : Nat) (hi : i < 10) (u : Value) (x' : MOp)
    (haddr : a.eval p = .pointer (some ⟨(ad.add (j * 10)).block, (ad.add (j * 10)).off + i, none⟩)) (hx : a.eval x = u) (hu : u.cells.toList = [u]) (ht : (Try.prog.info? t).map (·.size) = some 1) (h1 : u.oneCell' = true) (hx' : (mopCells (mAt O j)).set i u = mopCells x')
    (HO : Kd.R k102 102 W base ok (.slice (some ad) n cap) O) (hj : j < n) (HB : Below base w0 W)
    (h : ∀ w1, Kd.R k102 102 w1 base ok (.slice (some ad) n cap) (O.set j x') → Below base w0 w1 → W.grownBy w1 (Value.slice (some ad) n cap).ownBlock → wpList Try.prog ops Q rest a w1) : wpList Try.prog ops Q (o :: rest) a W := by
  obtain ⟨hn, hnc, _⟩ := Kd.R_reads' HO
  obtain ⟨g, cap', hv, _⟩ := Kd.R_form HO (by omega)
  injection hv with ha _ _
  injection ha with ha
  subst ha
  obtain ⟨c, hcl, hM, hcc, _⟩ := Kd.R_elem HO mz (j : Int) (by omega) (by omega)
  have hc := k102_openM hM
  have hc2 : c = mopCells (mAt O j) := hc
  have hset : c.take i ++ [u] ++ c.drop (i + 1) = mopCells x' := by
    rw [← hx', hc2, List.set_eq_take_append_cons_drop, if_pos (by simp [mopCells]; omega)]
    simp
  refine Kd.R_store k102 (w0 := w0) base hN hgd t p x ho 102 (o' := j * 10 + i) (j : Int) i O x' u [u] c ok (fun _ => False) (by rw [haddr, add_at]; simp) rfl hx hu ht (by simpa using h1) HO (by omega) (by omega) hcl hcc (show i + 1 ≤ 10 by omega) ?_ (fun _ hk => hk.elim) HB ?_
  · show k102.M W base (fun _ => False) x' (c.take i ++ [u] ++ c.drop (i + 1))
    rw [hset]; exact k102_mkM _ _ _ x'
  · intro w1 h1 h2 h3
    rw [Int.toNat_natCast] at h1
    exact h w1 h1 h2 h3
end
theorem at_mopc {W : World} {base n cap : Nat} {ok : Nat → Prop} {ad : Addr} {O : List MOp} (HO : Kd.R k102 102 W base ok (.slice (some ad) n cap) O) {j : Nat} (hj : j < n) : ∀ i u, (mopCells (mAt O j))[i]? = some u → W.cell? ⟨(ad.add (j * 10)).block, (ad.add (j * 10)).off + i, none⟩ = some u := by
  obtain ⟨hn, hnc, _⟩ := Kd.R_reads' HO
  obtain ⟨g, cap', hv, _⟩ := Kd.R_form HO (by omega)
  injection hv with ha _ _
  injection ha with ha
  subst ha
  obtain ⟨c, hcl, hM, hcc, _⟩ := Kd.R_elem HO mz (j : Int) (by omega) (by omega)
  have hc2 : c = mopCells (mAt O j) := k102_openM hM
  intro i u hu
  rw [← hc2] at hu
  have := hcc i u hu
  rw [add_at, Nat.zero_add]
  exact this
theorem at_mopc0 {W : World} {base n cap : Nat} {ok : Nat → Prop} {ad : Addr} {O : List MOp} (HO : Kd.R k102 102 W base ok (.slice (some ad) n cap) O) {j : Nat} (hj : j < n) : W.cell? (ad.add (j * 10)) = some (.int .i64 (mAt O j).call.f0) := by
  have h := at_mopc HO hj 0 _ rfl
  obtain ⟨hn, hnc, _⟩ := Kd.R_reads' HO
  obtain ⟨g, cap', hv, _⟩ := Kd.R_form HO (by omega)
  injection hv with ha _ _
  injection ha with ha
  subst ha
  rw [add_at] at h ⊢
  exact h
def chS (ch : List (Int × Int)) : List S104 := ch.map (fun p => ⟨p.1, p.2⟩)
theorem chS_len (ch : List (Int × Int)) : (chS ch).length = ch.length := by simp [chS]
theorem value_l0 (ch : List (Int × Int)) (r : Int) (hsz : ch.length ≤ 1000) : ∀ d x v, ch.length - x = d → x ≤ ch.length → tegularef47_value.l0 (d + 1) (chS ch) r v (x : Nat) = some ((ch.drop x).foldl (fun v c => if c.1 = r then c.2 else v) v)
  | 0, x, v, hd, hx => by
    rw [tegularef47_value.l0, chS_len, if_neg (by omega), List.drop_eq_nil_of_le (by omega)]; rfl
  | d + 1, x, v, hd, hx => by
    have hr : rd_T104 (chS ch) (x : Int) = ⟨ch[x].1, ch[x].2⟩ := by
      simp [rd_T104, chS, List.getD_eq_getElem?_getD, show x < ch.length by omega]
    have hw : wrap64 ((x : Int) + 1) = ((x + 1 : Nat) : Int) := by rw [wrap_succ (by omega) (by omega)]; omega
    rw [tegularef47_value.l0, chS_len, if_pos (by omega), if_pos (by omega), hr, hw, List.drop_eq_getElem_cons (by omega), List.foldl_cons]
    simp only
    split
    · exact value_l0 ch r hsz d (x + 1) _ (by omega) (by omega)
    · exact value_l0 ch r hsz d (x + 1) _ (by omega) (by omega)
theorem value_f (ch : List (Int × Int)) (r : Int) (hsz : ch.length ≤ 1000) : tegularef47_value.f (ch.length + 1) (chS ch) r = some (valM ch r) := by
  have := value_l0 ch r hsz ch.length 0 0 (by omega) (by omega)
  rwa [List.drop_zero] at this
theorem chS_snoc (ch : List (Int × Int)) (a b : Int) : chS (ch ++ [(a, b)]) = chS ch ++ [⟨a, b⟩] := by simp [chS]
theorem chS_take (ch : List (Int × Int)) (k : Nat) : chS (ch.take k) = (chS ch).take k := by simp [chS, List.map_take]
theorem mAt_same (M : List MOp) (j : Nat) (o : MOp) (hj : j < M.length) : mAt (M.set j o) j = o := by rw [mAt_set _ _ _ _ hj, if_pos rfl]
end Go.Proofs.Ytidghmgaaenihaa.Q

/-! part RStoB -/
namespace Go.Proofs.Ytidghmgaaenihaa.Q
open Go.RowKit Go.Proofs.YtidghmgaaenihaaW.PrintWords Go.Proofs.YtidghmgaaenihaaW.PrintLast Go.Proofs.YtidghmgaaenihaaW.PrintMore
set_option linter.unusedVariables false
set_option linter.unusedSimpArgs false
theorem stoN_succ (script : List S100) {x : Nat} (hx : x < script.length) : stoN script (x + 1) = stoStep (stoN script x) (rd_T100 script (x : Int)) := by
  unfold stoN
  rw [List.take_succ_eq_append_getElem hx, List.foldl_append]
  simp [rd_T100, List.getD_eq_getElem?_getD, hx]
structure StoB (s : MS) (x : Nat) : Prop where
  l : s.l.length ≤ x
  o : s.ops.length ≤ x
  c : s.ch.length ≤ x
  n : 0 ≤ s.n ∧ s.n ≤ x
theorem stoB (script : List S100) : ∀ x, x ≤ script.length → StoB (stoN script x) x
  | 0, _ => ⟨Nat.le_refl _, Nat.le_refl _, Nat.le_refl _, ⟨Int.le_refl _, Int.le_refl _⟩⟩
  | x + 1, hx => by
    rw [stoN_succ script (by omega)]
    obtain ⟨h1, h2, h3, h4⟩ := stoB script x (by omega)
    generalize stoN script x = s at h1 h2 h3 h4
    unfold stoStep
    split
    · exact ⟨by simp; omega, by simp; omega, by simp; omega, by simp; omega⟩
    · split
      · split
        · exact ⟨by omega, by omega, by omega, by omega⟩
        · split
          · exact ⟨by omega, by omega, by omega, by omega⟩
          · refine ⟨Nat.le_succ_of_le h1, ?_, ?_, ?_⟩
            · simp [stoX]; omega
            · show (if _ then _ else _ : List (Int × Int)).length ≤ _
              split
              · simp; omega
              · omega
            · show 0 ≤ s.n ∧ s.n ≤ _
              omega
      · split
        · split
          · exact ⟨by omega, by omega, by omega, by omega⟩
          · split
            · split
              · exact ⟨by omega, by omega, by omega, by omega⟩
              · exact ⟨by simp [stoD]; omega, by simp [stoD]; omega, by simp [stoD]; omega, by simp [stoD]; omega⟩
            · exact ⟨by omega, by omega, by omega, by omega⟩
        · exact ⟨by simp [stoC]; omega, by simp [stoC], by simp [stoC]; omega, by simp [stoC]; omega⟩
def StoPost (script : List S100) (w : World) (e : Ending) (w' : World) : Prop :=
  ∃ u, e = .returned u ∧ Kd.R k39 39 w' w.heap.size (fun _ => True) u (stoN script script.length).l ∧ Below w.heap.size w w'
def firstLoop27 : Code → Option Code
  | .loop c => some c
  | .seq a b => match firstLoop27 a with
    | some c => some c
    | none => firstLoop27 b
  | .block _ c => firstLoop27 c
  | .scope c => firstLoop27 c
  | .cond _ a b => match firstLoop27 a with
    | some c => some c
    | none => firstLoop27 b
  | _ => none
noncomputable def body27 : Code := ((Try.f27.body.bind firstLoop27).getD .skip)
def StoMu (script : List S100) (a : Act) : Nat := script.length - (intOf (a.tmps.getD 8 undef)).toNat
set_option maxRecDepth 1000000 in
def StoInv (script : List S100) (w : World) (A : Option Addr) (c : Nat) (a' : Act) (w' : World) : Prop := ∃ u3 u4 u5 u6 u7 u8 u9 u10 u11 u12 u13 u14 u15 u16 u17 u18 u19 u20 u21 u22 u23 u24 u25 u26 u27 u28 u29 u30 u31 u32 u33 u34 u35 u36 u37 u38 u39 u40 u41 u42 u43 u44 u45 u46 u47 u48 u49 u50 u51 u52 u53 u54 u55 u56 u57 u58 u59 u60 u61 u62 u63 u64 u65 u66 u67 u68 u69 u70 u71 u72 u73 u74 u75 u76 u77 u78 u79 u80 u81 u82 u83 u84 u85 u86 u87 u88 u89 u90 u91 u92 u93 u94 u95 u96 u97 u98 u99 u100 u101 u102 u103 u104 u105 u106 u107 u108 u109 u110 u111 u112 u113 u114 u115 u116 u117 u118 u119 u120 u121 u122 u123 u124 u125 u126 u127 u128 u129 u130 u131 u132 u133 u134 u135 u136 u137 u138 u139 u140 u141 u142 u143 u144 u145 u146 u147 u148 u149 u150 u151 u152 u153 u154 u155 u156 u157 u158 u159 u160 u161 u162 u163 u164 u165 u166 u167 u168 u169 u170 u171 u172 u173 u174 u175 u176 u177 u178 u179 u180 u181 u182 u183 u184 u185 u186 u187 u188 u189 u190 u191 u192 u193 u194 u195 u196 u197 u198 u199 u200 u201 u202 u203 u204 u205 u206 u207 u208 u209 u210 u211 : Value, (∃ x : Nat, x ≤ script.length ∧ u8 = .int .i64 x ∧ u6 = .int .i64 (stoN script x).safe ∧ u7 = .int .i64 (stoN script x).n ∧ Aside0 (Kd.R k39 39 w' w.heap.size (fun _ => True) u3 (stoN script x).l) ∧ Aside0 (Kd.R k102 102 w' w.heap.size (fun _ => True) u4 (stoN script x).ops) ∧ Aside0 (Kd.R k104 104 w' w.heap.size (fun _ => True) u5 (chS (stoN script x).ch)) ∧ Aside0 (Below w.heap.size w w')) ∧ a' = ⟨#[.slice A script.length c, undef, .slice none 0 0, u3, u4, u5, u6, u7, u8, u9, u10, u11, u12, u13, u14, u15, u16, u17, u18, u19, u20, u21, u22, u23, u24, u25, u26, u27, u28, u29, u30, u31, u32, u33, u34, u35, u36, u37, u38, u39, u40, u41, u42, u43, u44, u45, u46, u47, u48, u49, u50, u51, u52, u53, u54, u55, u56, u57, u58, u59, u60, u61, u62, u63, u64, u65, u66, u67, u68, u69, u70, u71, u72, u73, u74, u75, u76, u77, u78, u79, u80, u81, u82, u83, u84, u85, u86, u87, u88, u89, u90, u91, u92, u93, u94, u95, u96, u97, u98, u99, u100, u101, u102, u103, u104, u105, u106, u107, u108, u109, u110, u111, u112, u113, u114, u115, u116, u117, u118, u119, u120, u121, u122, u123, u124, u125, u126, u127, u128, u129, u130, u131, u132, u133, u134, u135, u136, u137, u138, u139, u140, u141, u142, u143, u144, u145, u146, u147, u148, u149, u150, u151, u152, u153, u154, u155, u156, u157, u158, u159, u160, u161, u162, u163, u164, u165, u166, u167, u168, u169, u170, u171, u172, u173, u174, u175, u176, u177, u178, u179, u180, u181, u182, u183, u184, u185, u186, u187, u188, u189, u190, u191, u192, u193, u194, u195, u196, u197, u198, u199, u200, u201, u202, u203, u204, u205, u206, u207, u208, u209, u210, u211, undef], []⟩
set_option maxRecDepth 1000000 in
theorem StoInv.mk {script : List S100} {w : World} {A : Option Addr} {c : Nat} {u3 u4 u5 u6 u7 u8 u9 u10 u11 u12 u13 u14 u15 u16 u17 u18 u19 u20 u21 u22 u23 u24 u25 u26 u27 u28 u29 u30 u31 u32 u33 u34 u35 u36 u37 u38 u39 u40 u41 u42 u43 u44 u45 u46 u47 u48 u49 u50 u51 u52 u53 u54 u55 u56 u57 u58 u59 u60 u61 u62 u63 u64 u65 u66 u67 u68 u69 u70 u71 u72 u73 u74 u75 u76 u77 u78 u79 u80 u81 u82 u83 u84 u85 u86 u87 u88 u89 u90 u91 u92 u93 u94 u95 u96 u97 u98 u99 u100 u101 u102 u103 u104 u105 u106 u107 u108 u109 u110 u111 u112 u113 u114 u115 u116 u117 u118 u119 u120 u121 u122 u123 u124 u125 u126 u127 u128 u129 u130 u131 u132 u133 u134 u135 u136 u137 u138 u139 u140 u141 u142 u143 u144 u145 u146 u147 u148 u149 u150 u151 u152 u153 u154 u155 u156 u157 u158 u159 u160 u161 u162 u163 u164 u165 u166 u167 u168 u169 u170 u171 u172 u173 u174 u175 u176 u177 u178 u179 u180 u181 u182 u183 u184 u185 u186 u187 u188 u189 u190 u191 u192 u193 u194 u195 u196 u197 u198 u199 u200 u201 u202 u203 u204 u205 u206 u207 u208 u209 u210 u211 : Value} {w' : World} (h : (∃ x : Nat, x ≤ script.length ∧ u8 = .int .i64 x ∧ u6 = .int .i64 (stoN script x).safe ∧ u7 = .int .i64 (stoN script x).n ∧ Aside0 (Kd.R k39 39 w' w.heap.size (fun _ => True) u3 (stoN script x).l) ∧ Aside0 (Kd.R k102 102 w' w.heap.size (fun _ => True) u4 (stoN script x).ops) ∧ Aside0 (Kd.R k104 104 w' w.heap.size (fun _ => True) u5 (chS (stoN script x).ch)) ∧ Aside0 (Below w.heap.size w w'))) : StoInv script w A c ⟨#[.slice A script.length c, undef, .slice none 0 0, u3, u4, u5, u6, u7, u8, u9, u10, u11, u12, u13, u14, u15, u16, u17, u18, u19, u20, u21, u22, u23, u24, u25, u26, u27, u28, u29, u30, u31, u32, u33, u34, u35, u36, u37, u38, u39, u40, u41, u42, u43, u44, u45, u46, u47, u48, u49, u50, u51, u52, u53, u54, u55, u56, u57, u58, u59, u60, u61, u62, u63, u64, u65, u66, u67, u68, u69, u70, u71, u72, u73, u74, u75, u76, u77, u78, u79, u80, u81, u82, u83, u84, u85, u86, u87, u88, u89, u90, u91, u92, u93, u94, u95, u96, u97, u98, u99, u100, u101, u102, u103, u104, u105, u106, u107, u108, u109, u110, u111, u112, u113, u114, u115, u116, u117, u118, u119, u120, u121, u122, u123, u124, u125, u126, u127, u128, u129, u130, u131, u132, u133, u134, u135, u136, u137, u138, u139, u140, u141, u142, u143, u144, u145, u146, u147, u148, u149, u150, u151, u152, u153, u154, u155, u156, u157, u158, u159, u160, u161, u162, u163, u164, u165, u166, u167, u168, u169, u170, u171, u172, u173, u174, u175, u176, u177, u178, u179, u180, u181, u182, u183, u184, u185, u186, u187, u188, u189, u190, u191, u192, u193, u194, u195, u196, u197, u198, u199, u200, u201, u202, u203, u204, u205, u206, u207, u208, u209, u210, u211, undef], []⟩ w' := ⟨u3, u4, u5, u6, u7, u8, u9, u10, u11, u12, u13, u14, u15, u16, u17, u18, u19, u20, u21, u22, u23, u24, u25, u26, u27, u28, u29, u30, u31, u32, u33, u34, u35, u36, u37, u38, u39, u40, u41, u42, u43, u44, u45, u46, u47, u48, u49, u50, u51, u52, u53, u54, u55, u56, u57, u58, u59, u60, u61, u62, u63, u64, u65, u66, u67, u68, u69, u70, u71, u72, u73, u74, u75, u76, u77, u78, u79, u80, u81, u82, u83, u84, u85, u86, u87, u88, u89, u90, u91, u92, u93, u94, u95, u96, u97, u98, u99, u100, u101, u102, u103, u104, u105, u106, u107, u108, u109, u110, u111, u112, u113, u114, u115, u116, u117, u118, u119, u120, u121, u122, u123, u124, u125, u126, u127, u128, u129, u130, u131, u132, u133, u134, u135, u136, u137, u138, u139, u140, u141, u142, u143, u144, u145, u146, u147, u148, u149, u150, u151, u152, u153, u154, u155, u156, u157, u158, u159, u160, u161, u162, u163, u164, u165, u166, u167, u168, u169, u170, u171, u172, u173, u174, u175, u176, u177, u178, u179, u180, u181, u182, u183, u184, u185, u186, u187, u188, u189, u190, u191, u192, u193, u194, u195, u196, u197, u198, u199, u200, u201, u202, u203, u204, u205, u206, u207, u208, u209, u210, u211, h, rfl⟩
structure StoHead (script : List S100) (w wr : World) (ad : Addr) (c x : Nat) (k r q : Int) (L : List S39) (O : List MOp) (ch : List (Int × Int)) (sf n : Int) (A3 : Option Addr) (c3 : Nat) (A4 : Option Addr) (c4 : Nat) (A5 : Option Addr) (c5 : Nat) : Prop where
  HR : Aside0 (Kd.C k100 w (some ad) script.length script)
  hc : script.length ≤ c
  hsz : script.length ≤ 1000
  hlt : x < script.length
  s0 : wr.cell? (ad.add (x * 3)) = some (.int .u8 k)
  s1 : wr.cell? ⟨(ad.add (x * 3)).block, (ad.add (x * 3)).off + 1, none⟩ = some (.int .u8 r)
  s2 : wr.cell? ⟨(ad.add (x * 3)).block, (ad.add (x * 3)).off + 2, none⟩ = some (.int .u8 q)
  k0 : 0 ≤ k
  k1 : k < 256
  r0 : 0 ≤ r
  r1 : r < 256
  q0 : 0 ≤ q
  q1 : q < 256
  HN : Aside0 (stoN script (x + 1) = stoStep ⟨L, O, ch, sf, n⟩ ⟨k, r, q⟩)
  bl : L.length ≤ x
  bo : O.length ≤ x
  bc : ch.length ≤ x
  bn0 : 0 ≤ n
  bn1 : n ≤ x
  HL : Aside0 (Kd.R k39 39 wr w.heap.size (fun _ => True) (.slice A3 L.length c3) L)
  HO : Aside0 (Kd.R k102 102 wr w.heap.size (fun _ => True) (.slice A4 O.length c4) O)
  HC : Aside0 (Kd.R k104 104 wr w.heap.size (fun _ => True) (.slice A5 ch.length c5) (chS ch))
  HC4 : Aside0 (Kd.C k102 wr A4 O.length O)
  HC5 : Aside0 (Kd.C k104 wr A5 ch.length (chS ch))
  hc3 : L.length ≤ c3
  hc4 : O.length ≤ c4
  hc5 : ch.length ≤ c5
  sf0 : 0 ≤ sf
  sf1 : sf ≤ (ch.length : Int)
  HB : Aside0 (Below w.heap.size w wr)
end Go.Proofs.Ytidghmgaaenihaa.Q

/-! part RStoC0 -/
namespace Go.Proofs.Ytidghmgaaenihaa.Q
open Go.RowKit Go.Proofs.YtidghmgaaenihaaW.PrintWords Go.Proofs.YtidghmgaaenihaaW.PrintLast Go.Proofs.YtidghmgaaenihaaW.PrintMore
set_option linter.unusedVariables false
set_option linter.unusedSimpArgs false
set_option maxHeartbeats 40000000 in
set_option maxRecDepth 1000000 in
theorem sto_case0 {script : List S100} {w wr : World} {ad : Addr} {c x : Nat} {k r q : Int} {L : List S39} {O : List MOp} {ch : List (Int × Int)} {sf n : Int} {A3 : Option Addr} {c3 : Nat} {A4 : Option Addr} {c4 : Nat} {A5 : Option Addr} {c5 : Nat} {Qx : Exit → Act → World → Prop}
    {u9 u10 u11 u12 u13 u14 u15 u16 u17 u18 u19 u20 u21 u22 u23 u24 u25 u26 u27 u28 u29 u30 u31 u32 u33 u34 u35 u36 u37 u38 u39 u40 u41 u42 u43 u44 u45 u46 u47 u48 u49 u50 u51 u52 u53 u54 u55 u56 u57 u58 u59 u60 u61 u62 u63 u64 u65 u66 u67 u68 u69 u70 u71 u72 u73 u74 u75 u76 u77 u78 u79 u80 u81 u82 u83 u84 u85 u86 u87 u88 u89 u90 u91 u92 u93 u94 u95 u96 u97 u98 u99 u100 u101 u102 u103 u104 u105 u106 u107 u108 u109 u110 u111 u112 u113 u114 u115 u116 u117 u118 u119 u120 u121 u122 u123 u124 u125 u126 u127 u128 u129 u130 u131 u132 u133 u134 u135 u136 u137 u138 u139 u140 u141 u142 u143 u144 u145 u146 u147 u148 u149 u150 u151 u152 u153 u154 u155 u156 u157 u158 u159 u160 u161 u162 u163 u164 u165 u166 u167 u168 u169 u170 u171 u172 u173 u174 u175 u176 u177 u178 u179 u180 u181 u182 u183 u184 u185 u186 u187 u188 u189 u190 u191 u192 u193 u194 u195 u196 u197 u198 u199 u200 u201 u202 u203 u204 u205 u206 u207 u208 u209 u210 u211 : Value} (H : StoHead script w wr ad c x k r q L O ch sf n A3 c3 A4 c4 A5 c5) (h : k % 8 = 0) :
    Code.wp Try.prog body27 (Exit.then (fun a' w' => StoInv script w (some ad) c a' w' ∧ StoMu script a' < StoMu script ⟨#[.slice (some ad) script.length c, undef, .slice none 0 0, .slice A3 L.length c3, .slice A4 O.length c4, .slice A5 ch.length c5, .int .i64 sf, .int .i64 n, .int .i64 x, u9, u10, u11, u12, u13, u14, u15, u16, u17, u18, u19, u20, u21, u22, u23, u24, u25, u26, u27, u28, u29, u30, u31, u32, u33, u34, u35, u36, u37, u38, u39, u40, u41, u42, u43, u44, u45, u46, u47, u48, u49, u50, u51, u52, u53, u54, u55, u56, u57, u58, u59, u60, u61, u62, u63, u64, u65, u66, u67, u68, u69, u70, u71, u72, u73, u74, u75, u76, u77, u78, u79, u80, u81, u82, u83, u84, u85, u86, u87, u88, u89, u90, u91, u92, u93, u94, u95, u96, u97, u98, u99, u100, u101, u102, u103, u104, u105, u106, u107, u108, u109, u110, u111, u112, u113, u114, u115, u116, u117, u118, u119, u120, u121, u122, u123, u124, u125, u126, u127, u128, u129, u130, u131, u132, u133, u134, u135, u136, u137, u138, u139, u140, u141, u142, u143, u144, u145, u146, u147, u148, u149, u150, u151, u152, u153, u154, u155, u156, u157, u158, u159, u160, u161, u162, u163, u164, u165, u166, u167, u168, u169, u170, u171, u172, u173, u174, u175, u176, u177, u178, u179, u180, u181, u182, u183, u184, u185, u186, u187, u188, u189, u190, u191, u192, u193, u194, u195, u196, u197, u198, u199, u200, u201, u202, u203, u204, u205, u206, u207, u208, u209, u210, u211, undef], []⟩) Qx) ⟨#[.slice (some ad) script.length c, undef, .slice none 0 0, .slice A3 L.length c3, .slice A4 O.length c4, .slice A5 ch.length c5, .int .i64 sf, .int .i64 n, .int .i64 x, u9, u10, u11, u12, u13, u14, u15, u16, u17, u18, u19, u20, u21, u22, u23, u24, u25, u26, u27, u28, u29, u30, u31, u32, u33, u34, u35, u36, u37, u38, u39, u40, u41, u42, u43, u44, u45, u46, u47, u48, u49, u50, u51, u52, u53, u54, u55, u56, u57, u58, u59, u60, u61, u62, u63, u64, u65, u66, u67, u68, u69, u70, u71, u72, u73, u74, u75, u76, u77, u78, u79, u80, u81, u82, u83, u84, u85, u86, u87, u88, u89, u90, u91, u92, u93, u94, u95, u96, u97, u98, u99, u100, u101, u102, u103, u104, u105, u106, u107, u108, u109, u110, u111, u112, u113, u114, u115, u116, u117, u118, u119, u120, u121, u122, u123, u124, u125, u126, u127, u128, u129, u130, u131, u132, u133, u134, u135, u136, u137, u138, u139, u140, u141, u142, u143, u144, u145, u146, u147, u148, u149, u150, u151, u152, u153, u154, u155, u156, u157, u158, u159, u160, u161, u162, u163, u164, u165, u166, u167, u168, u169, u170, u171, u172, u173, u174, u175, u176, u177, u178, u179, u180, u181, u182, u183, u184, u185, u186, u187, u188, u189, u190, u191, u192, u193, u194, u195, u196, u197, u198, u199, u200, u201, u202, u203, u204, u205, u206, u207, u208, u209, u210, u211, undef], []⟩ wr := by
  obtain ⟨HR, hc, hsz, hlt, s0, s1, s2, k0, k1, r0, r1, q0, q1, HN, bl, bo, bc, bn0, bn1, HL, HO, HC, HC4, HC5, hc3, hc4, hc5, sf0, sf1, HB⟩ := H
  have hx : x ≤ script.length := by omega
  have hltb : (x : Int) < (script.length : Int) := by omega
  have hx0 : (0 : Int) ≤ x := by omega
  have hxb : (x : Int) < 1000 := by omega
  have hkk : 0 ≤ k % 8 := by omega
  have hrm := Int.emod_nonneg r (show (4 : Int) ≠ 0 by decide)
  have hrl := Int.emod_lt_of_pos r (show (0 : Int) < 4 by decide)
  have hjm : O.length ≠ 0 → 0 ≤ q % (O.length : Int) ∧ q % (O.length : Int) < O.length := fun h => ⟨Int.emod_nonneg _ (by omega), Int.emod_lt_of_pos _ (by omega)⟩
  have HJM := Aside0.mk hjm
  clear hjm
  conv => arg 2; whnf
  have HN2 : Aside0 (stoN script (x + 1) = ⟨L ++ [⟨1, n, false, r % 4, 0, false⟩], O ++ [⟨⟨1, n, false, r % 4, 0, false⟩, false, false, 0, 0⟩], ch, sf, n + 1⟩) := ⟨by rw [HN.out]; unfold stoStep stoE; simp only; rw [h]; rfl⟩
  clear HN
  have HB0 := Aside0.mk (show Below wr.heap.size wr ((wr.alloc (.cells #[.int .u8 k, .int .u8 r, .int .u8 q] 100)).alloc (.cells #[.int .i64 1, .int .i64 n, .bool false, .int .i64 (r % 4), .int .i64 (0), .bool false] 39)) from below_alloc (below_alloc (Below.refl _ _) _) _)
  have BK0 := Aside0.mk (show ((wr.alloc (.cells #[.int .u8 k, .int .u8 r, .int .u8 q] 100)).alloc (.cells #[.int .i64 1, .int .i64 n, .bool false, .int .i64 (r % 4), .int .i64 (0), .bool false] 39)).heap[wr.heap.size + 1]? = some (.cells #[.int .i64 1, .int .i64 n, .bool false, .int .i64 (r % 4), .int .i64 (0), .bool false] 39 (0, 0)) from (by have h5 := blk_new (wr.alloc (.cells #[.int .u8 k, .int .u8 r, .int .u8 q] 100)) (.cells #[.int .i64 1, .int .i64 n, .bool false, .int .i64 (r % 4), .int .i64 (0), .bool false] 39); rwa [show (wr.alloc (.cells #[.int .u8 k, .int .u8 r, .int .u8 q] 100)).heap.size = wr.heap.size + 1 by simp] at h5))
  have HBW := Aside0.mk (below_step HB.out HB0.out)
  have HLW := Aside0.mk (Kd.R_below HL.out HB0.out)
  have HOW := Aside0.mk (Kd.R_below HO.out HB0.out)
  have HCW := Aside0.mk (Kd.R_below HC.out HB0.out)
  have HNE := Aside0.mk (show some (wr.heap.size + 1) ≠ (Value.slice A3 L.length c3).ownBlock from fun e => by have := Kd.R_lt HL.out _ e.symm; omega)
  by_cases hol : O.length = 0
  · have holb : ¬ ((O.length : Int) > 0) := by omega
    clear hol
    go_wp2_with (first | (at_builtin; go_loud (refine Kd.R_append k39 (w0 := w) w.heap.size rfl (.tmp 96) (.tmp 98) 22 39 (.agg #[(.int .i64 0), (.int .i64 0), (.bool false), (.int .i64 0), (.int .i64 0), (.bool false)]) 48 rfl Try.underlying22 info39 rfl (by decide) (by omega) (.slice A3 L.length c3) L ⟨1, n, false, r % 4, 0, false⟩ [.int .i64 1, .int .i64 n, .bool false, .int .i64 (r % 4), .int .i64 (0), .bool false] (fun _ => True) (fun _ => False) rfl (by rw [size_alloc, size_alloc]; rfl) (k39_mkM _ _ _ ⟨1, n, false, r % 4, 0, false⟩) (fun _ hk => hk.elim) (fun _ _ => trivial) HLW.out HBW.out (below_size HBW.out) (by omega) ?_); intro v6 w6 ho hb hg hat; obtain ⟨A6, c6, rfl, hc6, _⟩ := Kd.R_reads ho; rw [List.length_append, List.length_singleton] at ho; have HL6 := Aside0.mk ho; have HB6 := Aside0.mk hb; have HO6 := Aside0.mk (Kd.R_over HOW.out HLW.out (by decide) hg); have HC6 := Aside0.mk (Kd.R_over HCW.out HLW.out (by decide) hg); have BK6 := Aside0.mk (blk_grown BK0.out hg HNE.out); have d0 := (blk_cell BK6.out 0).trans rfl; have d1 := (blk_cell BK6.out 1).trans rfl; have d2 := (blk_cell BK6.out 2).trans rfl; have d3 := (blk_cell BK6.out 3).trans rfl; have d4 := (blk_cell BK6.out 4).trans rfl; have d5 := (blk_cell BK6.out 5).trans rfl; clear ho hb hg hat) | (at_builtin; go_loud (refine Kd.R_append k102 (w0 := w) w.heap.size rfl (.tmp 100) (.tmp 103) 97 102 (.agg #[(.int .i64 0), (.int .i64 0), (.bool false), (.int .i64 0), (.int .i64 0), (.bool false), (.bool false), (.bool false), (.int .i64 0), (.int .i64 0)]) 72 rfl Try.underlying97 info102 rfl (by decide) (by omega) (.slice A4 O.length c4) O ⟨⟨1, n, false, r % 4, 0, false⟩, false, false, 0, 0⟩ [.int .i64 1, .int .i64 n, .bool false, .int .i64 (r % 4), .int .i64 (0), .bool false, .bool false, .bool false, .int .i64 0, .int .i64 0] (fun _ => True) (fun _ => False) rfl rfl (k102_mkM _ _ _ ⟨⟨1, n, false, r % 4, 0, false⟩, false, false, 0, 0⟩) (fun _ hk => hk.elim) (fun _ _ => trivial) HO6.out HB6.out (below_size HB6.out) (by omega) ?_); intro v7 w7 ho hb hg hat; obtain ⟨A7, c7, rfl, hc7, _⟩ := Kd.R_reads ho; rw [List.length_append, List.length_singleton] at ho; have HO7 := Aside0.mk ho; have HB7 := Aside0.mk hb; have HL7 := Aside0.mk (Kd.R_over HL6.out HO6.out (by decide) hg); have HC7 := Aside0.mk (Kd.R_over HC6.out HO6.out (by decide) hg); clear ho hb hg hat))
    refine ⟨StoInv.mk ⟨x + 1, by omega, by first | rfl | simp, by rw [HN2.out], by rw [HN2.out], by rw [HN2.out]; exact HL7, by rw [HN2.out]; exact HO7, by rw [HN2.out]; exact HC7, HB7⟩, ?_⟩
    simp [StoMu, intOf]; omega
  · have holb : (O.length : Int) > 0 := by omega
    obtain ⟨j0, j1⟩ := HJM.out hol
    clear hol
    go_wp2_with (first | (at_builtin; go_loud (refine Kd.R_append k39 (w0 := w) w.heap.size rfl (.tmp 96) (.tmp 98) 22 39 (.agg #[(.int .i64 0), (.int .i64 0), (.bool false), (.int .i64 0), (.int .i64 0), (.bool false)]) 48 rfl Try.underlying22 info39 rfl (by decide) (by omega) (.slice A3 L.length c3) L ⟨1, n, false, r % 4, 0, false⟩ [.int .i64 1, .int .i64 n, .bool false, .int .i64 (r % 4), .int .i64 (0), .bool false] (fun _ => True) (fun _ => False) rfl (by rw [size_alloc, size_alloc]; rfl) (k39_mkM _ _ _ ⟨1, n, false, r % 4, 0, false⟩) (fun _ hk => hk.elim) (fun _ _ => trivial) HLW.out HBW.out (below_size HBW.out) (by omega) ?_); intro v6 w6 ho hb hg hat; obtain ⟨A6, c6, rfl, hc6, _⟩ := Kd.R_reads ho; rw [List.length_append, List.length_singleton] at ho; have HL6 := Aside0.mk ho; have HB6 := Aside0.mk hb; have HO6 := Aside0.mk (Kd.R_over HOW.out HLW.out (by decide) hg); have HC6 := Aside0.mk (Kd.R_over HCW.out HLW.out (by decide) hg); have BK6 := Aside0.mk (blk_grown BK0.out hg HNE.out); have d0 := (blk_cell BK6.out 0).trans rfl; have d1 := (blk_cell BK6.out 1).trans rfl; have d2 := (blk_cell BK6.out 2).trans rfl; have d3 := (blk_cell BK6.out 3).trans rfl; have d4 := (blk_cell BK6.out 4).trans rfl; have d5 := (blk_cell BK6.out 5).trans rfl; clear ho hb hg hat) | (at_builtin; go_loud (refine Kd.R_append k102 (w0 := w) w.heap.size rfl (.tmp 100) (.tmp 103) 97 102 (.agg #[(.int .i64 0), (.int .i64 0), (.bool false), (.int .i64 0), (.int .i64 0), (.bool false), (.bool false), (.bool false), (.int .i64 0), (.int .i64 0)]) 72 rfl Try.underlying97 info102 rfl (by decide) (by omega) (.slice A4 O.length c4) O ⟨⟨1, n, false, r % 4, 0, false⟩, false, false, 0, 0⟩ [.int .i64 1, .int .i64 n, .bool false, .int .i64 (r % 4), .int .i64 (0), .bool false, .bool false, .bool false, .int .i64 0, .int .i64 0] (fun _ => True) (fun _ => False) rfl rfl (k102_mkM _ _ _ ⟨⟨1, n, false, r % 4, 0, false⟩, false, false, 0, 0⟩) (fun _ hk => hk.elim) (fun _ _ => trivial) HO6.out HB6.out (below_size HB6.out) (by omega) ?_); intro v7 w7 ho hb hg hat; obtain ⟨A7, c7, rfl, hc7, _⟩ := Kd.R_reads ho; rw [List.length_append, List.length_singleton] at ho; have HO7 := Aside0.mk ho; have HB7 := Aside0.mk hb; have HL7 := Aside0.mk (Kd.R_over HL6.out HO6.out (by decide) hg); have HC7 := Aside0.mk (Kd.R_over HC6.out HO6.out (by decide) hg); clear ho hb hg hat))
    refine ⟨StoInv.mk ⟨x + 1, by omega, by first | rfl | simp, by rw [HN2.out], by rw [HN2.out], by rw [HN2.out]; exact HL7, by rw [HN2.out]; exact HO7, by rw [HN2.out]; exact HC7, HB7⟩, ?_⟩
    simp [StoMu, intOf]; omega
end Go.Proofs.Ytidghmgaaenihaa.Q

/-! part RStoC1 -/
namespace Go.Proofs.Ytidghmgaaenihaa.Q
open Go.RowKit Go.Proofs.YtidghmgaaenihaaW.PrintWords Go.Proofs.YtidghmgaaenihaaW.PrintLast Go.Proofs.YtidghmgaaenihaaW.PrintMore
set_option linter.unusedVariables false
set_option linter.unusedSimpArgs false
set_option maxHeartbeats 40000000 in
set_option maxRecDepth 1000000 in
theorem sto_case1 {script : List S100} {w wr : World} {ad : Addr} {c x : Nat} {k r q : Int} {L : List S39} {O : List MOp} {ch : List (Int × Int)} {sf n : Int} {A3 : Option Addr} {c3 : Nat} {A4 : Option Addr} {c4 : Nat} {A5 : Option Addr} {c5 : Nat} {Qx : Exit → Act → World → Prop}
    {u9 u10 u11 u12 u13 u14 u15 u16 u17 u18 u19 u20 u21 u22 u23 u24 u25 u26 u27 u28 u29 u30 u31 u32 u33 u34 u35 u36 u37 u38 u39 u40 u41 u42 u43 u44 u45 u46 u47 u48 u49 u50 u51 u52 u53 u54 u55 u56 u57 u58 u59 u60 u61 u62 u63 u64 u65 u66 u67 u68 u69 u70 u71 u72 u73 u74 u75 u76 u77 u78 u79 u80 u81 u82 u83 u84 u85 u86 u87 u88 u89 u90 u91 u92 u93 u94 u95 u96 u97 u98 u99 u100 u101 u102 u103 u104 u105 u106 u107 u108 u109 u110 u111 u112 u113 u114 u115 u116 u117 u118 u119 u120 u121 u122 u123 u124 u125 u126 u127 u128 u129 u130 u131 u132 u133 u134 u135 u136 u137 u138 u139 u140 u141 u142 u143 u144 u145 u146 u147 u148 u149 u150 u151 u152 u153 u154 u155 u156 u157 u158 u159 u160 u161 u162 u163 u164 u165 u166 u167 u168 u169 u170 u171 u172 u173 u174 u175 u176 u177 u178 u179 u180 u181 u182 u183 u184 u185 u186 u187 u188 u189 u190 u191 u192 u193 u194 u195 u196 u197 u198 u199 u200 u201 u202 u203 u204 u205 u206 u207 u208 u209 u210 u211 : Value} (H : StoHead script w wr ad c x k r q L O ch sf n A3 c3 A4 c4 A5 c5) (h : k % 8 = 1) :
    Code.wp Try.prog body27 (Exit.then (fun a' w' => StoInv script w (some ad) c a' w' ∧ StoMu script a' < StoMu script ⟨#[.slice (some ad) script.length c, undef, .slice none 0 0, .slice A3 L.length c3, .slice A4 O.length c4, .slice A5 ch.length c5, .int .i64 sf, .int .i64 n, .int .i64 x, u9, u10, u11, u12, u13, u14, u15, u16, u17, u18, u19, u20, u21, u22, u23, u24, u25, u26, u27, u28, u29, u30, u31, u32, u33, u34, u35, u36, u37, u38, u39, u40, u41, u42, u43, u44, u45, u46, u47, u48, u49, u50, u51, u52, u53, u54, u55, u56, u57, u58, u59, u60, u61, u62, u63, u64, u65, u66, u67, u68, u69, u70, u71, u72, u73, u74, u75, u76, u77, u78, u79, u80, u81, u82, u83, u84, u85, u86, u87, u88, u89, u90, u91, u92, u93, u94, u95, u96, u97, u98, u99, u100, u101, u102, u103, u104, u105, u106, u107, u108, u109, u110, u111, u112, u113, u114, u115, u116, u117, u118, u119, u120, u121, u122, u123, u124, u125, u126, u127, u128, u129, u130, u131, u132, u133, u134, u135, u136, u137, u138, u139, u140, u141, u142, u143, u144, u145, u146, u147, u148, u149, u150, u151, u152, u153, u154, u155, u156, u157, u158, u159, u160, u161, u162, u163, u164, u165, u166, u167, u168, u169, u170, u171, u172, u173, u174, u175, u176, u177, u178, u179, u180, u181, u182, u183, u184, u185, u186, u187, u188, u189, u190, u191, u192, u193, u194, u195, u196, u197, u198, u199, u200, u201, u202, u203, u204, u205, u206, u207, u208, u209, u210, u211, undef], []⟩) Qx) ⟨#[.slice (some ad) script.length c, undef, .slice none 0 0, .slice A3 L.length c3, .slice A4 O.length c4, .slice A5 ch.length c5, .int .i64 sf, .int .i64 n, .int .i64 x, u9, u10, u11, u12, u13, u14, u15, u16, u17, u18, u19, u20, u21, u22, u23, u24, u25, u26, u27, u28, u29, u30, u31, u32, u33, u34, u35, u36, u37, u38, u39, u40, u41, u42, u43, u44, u45, u46, u47, u48, u49, u50, u51, u52, u53, u54, u55, u56, u57, u58, u59, u60, u61, u62, u63, u64, u65, u66, u67, u68, u69, u70, u71, u72, u73, u74, u75, u76, u77, u78, u79, u80, u81, u82, u83, u84, u85, u86, u87, u88, u89, u90, u91, u92, u93, u94, u95, u96, u97, u98, u99, u100, u101, u102, u103, u104, u105, u106, u107, u108, u109, u110, u111, u112, u113, u114, u115, u116, u117, u118, u119, u120, u121, u122, u123, u124, u125, u126, u127, u128, u129, u130, u131, u132, u133, u134, u135, u136, u137, u138, u139, u140, u141, u142, u143, u144, u145, u146, u147, u148, u149, u150, u151, u152, u153, u154, u155, u156, u157, u158, u159, u160, u161, u162, u163, u164, u165, u166, u167, u168, u169, u170, u171, u172, u173, u174, u175, u176, u177, u178, u179, u180, u181, u182, u183, u184, u185, u186, u187, u188, u189, u190, u191, u192, u193, u194, u195, u196, u197, u198, u199, u200, u201, u202, u203, u204, u205, u206, u207, u208, u209, u210, u211, undef], []⟩ wr := by
  obtain ⟨HR, hc, hsz, hlt, s0, s1, s2, k0, k1, r0, r1, q0, q1, HN, bl, bo, bc, bn0, bn1, HL, HO, HC, HC4, HC5, hc3, hc4, hc5, sf0, sf1, HB⟩ := H
  have hx : x ≤ script.length := by omega
  have hltb : (x : Int) < (script.length : Int) := by omega
  have hx0 : (0 : Int) ≤ x := by omega
  have hxb : (x : Int) < 1000 := by omega
  have hkk : 0 ≤ k % 8 := by omega
  have hrm := Int.emod_nonneg r (show (4 : Int) ≠ 0 by decide)
  have hrl := Int.emod_lt_of_pos r (show (0 : Int) < 4 by decide)
  have hjm : O.length ≠ 0 → 0 ≤ q % (O.length : Int) ∧ q % (O.length : Int) < O.length := fun h => ⟨Int.emod_nonneg _ (by omega), Int.emod_lt_of_pos _ (by omega)⟩
  have HJM := Aside0.mk hjm
  clear hjm
  conv => arg 2; whnf
  have HN2 : Aside0 (stoN script (x + 1) = ⟨L ++ [⟨1, n, true, r % 4, n + 1, false⟩], O ++ [⟨⟨1, n, true, r % 4, n + 1, false⟩, false, false, 0, 0⟩], ch, sf, n + 1⟩) := ⟨by rw [HN.out]; unfold stoStep stoE; simp only; rw [h]; rfl⟩
  clear HN
  have HB0 := Aside0.mk (show Below wr.heap.size wr ((wr.alloc (.cells #[.int .u8 k, .int .u8 r, .int .u8 q] 100)).alloc (.cells #[.int .i64 1, .int .i64 n, .bool true, .int .i64 (r % 4), .int .i64 (n + 1), .bool false] 39)) from below_alloc (below_alloc (Below.refl _ _) _) _)
  have BK0 := Aside0.mk (show ((wr.alloc (.cells #[.int .u8 k, .int .u8 r, .int .u8 q] 100)).alloc (.cells #[.int .i64 1, .int .i64 n, .bool true, .int .i64 (r % 4), .int .i64 (n + 1), .bool false] 39)).heap[wr.heap.size + 1]? = some (.cells #[.int .i64 1, .int .i64 n, .bool true, .int .i64 (r % 4), .int .i64 (n + 1), .bool false] 39 (0, 0)) from (by have h5 := blk_new (wr.alloc (.cells #[.int .u8 k, .int .u8 r, .int .u8 q] 100)) (.cells #[.int .i64 1, .int .i64 n, .bool true, .int .i64 (r % 4), .int .i64 (n + 1), .bool false] 39); rwa [show (wr.alloc (.cells #[.int .u8 k, .int .u8 r, .int .u8 q] 100)).heap.size = wr.heap.size + 1 by simp] at h5))
  have HBW := Aside0.mk (below_step HB.out HB0.out)
  have HLW := Aside0.mk (Kd.R_below HL.out HB0.out)
  have HOW := Aside0.mk (Kd.R_below HO.out HB0.out)
  have HCW := Aside0.mk (Kd.R_below HC.out HB0.out)
  have HNE := Aside0.mk (show some (wr.heap.size + 1) ≠ (Value.slice A3 L.length c3).ownBlock from fun e => by have := Kd.R_lt HL.out _ e.symm; omega)
  by_cases hol : O.length = 0
  · have holb : ¬ ((O.length : Int) > 0) := by omega
    clear hol
    go_wp2_with (first | (at_builtin; go_loud (refine Kd.R_append k39 (w0 := w) w.heap.size rfl (.tmp 96) (.tmp 98) 22 39 (.agg #[(.int .i64 0), (.int .i64 0), (.bool false), (.int .i64 0), (.int .i64 0), (.bool false)]) 48 rfl Try.underlying22 info39 rfl (by decide) (by omega) (.slice A3 L.length c3) L ⟨1, n, true, r % 4, n + 1, false⟩ [.int .i64 1, .int .i64 n, .bool true, .int .i64 (r % 4), .int .i64 (n + 1), .bool false] (fun _ => True) (fun _ => False) rfl (by rw [size_alloc, size_alloc]; rfl) (k39_mkM _ _ _ ⟨1, n, true, r % 4, n + 1, false⟩) (fun _ hk => hk.elim) (fun _ _ => trivial) HLW.out HBW.out (below_size HBW.out) (by omega) ?_); intro v6 w6 ho hb hg hat; obtain ⟨A6, c6, rfl, hc6, _⟩ := Kd.R_reads ho; rw [List.length_append, List.length_singleton] at ho; have HL6 := Aside0.mk ho; have HB6 := Aside0.mk hb; have HO6 := Aside0.mk (Kd.R_over HOW.out HLW.out (by decide) hg); have HC6 := Aside0.mk (Kd.R_over HCW.out HLW.out (by decide) hg); have BK6 := Aside0.mk (blk_grown BK0.out hg HNE.out); have d0 := (blk_cell BK6.out 0).trans rfl; have d1 := (blk_cell BK6.out 1).trans rfl; have d2 := (blk_cell BK6.out 2).trans rfl; have d3 := (blk_cell BK6.out 3).trans rfl; have d4 := (blk_cell BK6.out 4).trans rfl; have d5 := (blk_cell BK6.out 5).trans rfl; clear ho hb hg hat) | (at_builtin; go_loud (refine Kd.R_append k102 (w0 := w) w.heap.size rfl (.tmp 100) (.tmp 103) 97 102 (.agg #[(.int .i64 0), (.int .i64 0), (.bool false), (.int .i64 0), (.int .i64 0), (.bool false), (.bool false), (.bool false), (.int .i64 0), (.int .i64 0)]) 72 rfl Try.underlying97 info102 rfl (by decide) (by omega) (.slice A4 O.length c4) O ⟨⟨1, n, true, r % 4, n + 1, false⟩, false, false, 0, 0⟩ [.int .i64 1, .int .i64 n, .bool true, .int .i64 (r % 4), .int .i64 (n + 1), .bool false, .bool false, .bool false, .int .i64 0, .int .i64 0] (fun _ => True) (fun _ => False) rfl rfl (k102_mkM _ _ _ ⟨⟨1, n, true, r % 4, n + 1, false⟩, false, false, 0, 0⟩) (fun _ hk => hk.elim) (fun _ _ => trivial) HO6.out HB6.out (below_size HB6.out) (by omega) ?_); intro v7 w7 ho hb hg hat; obtain ⟨A7, c7, rfl, hc7, _⟩ := Kd.R_reads ho; rw [List.length_append, List.length_singleton] at ho; have HO7 := Aside0.mk ho; have HB7 := Aside0.mk hb; have HL7 := Aside0.mk (Kd.R_over HL6.out HO6.out (by decide) hg); have HC7 := Aside0.mk (Kd.R_over HC6.out HO6.out (by decide) hg); clear ho hb hg hat))
    refine ⟨StoInv.mk ⟨x + 1, by omega, by first | rfl | simp, by rw [HN2.out], by rw [HN2.out], by rw [HN2.out]; exact HL7, by rw [HN2.out]; exact HO7, by rw [HN2.out]; exact HC7, HB7⟩, ?_⟩
    simp [StoMu, intOf]; omega
  · have holb : (O.length : Int) > 0 := by omega
    obtain ⟨j0, j1⟩ := HJM.out hol
    clear hol
    go_wp2_with (first | (at_builtin; go_loud (refine Kd.R_append k39 (w0 := w) w.heap.size rfl (.tmp 96) (.tmp 98) 22 39 (.agg #[(.int .i64 0), (.int .i64 0), (.bool false), (.int .i64 0), (.int .i64 0), (.bool false)]) 48 rfl Try.underlying22 info39 rfl (by decide) (by omega) (.slice A3 L.length c3) L ⟨1, n, true, r % 4, n + 1, false⟩ [.int .i64 1, .int .i64 n, .bool true, .int .i64 (r % 4), .int .i64 (n + 1), .bool false] (fun _ => True) (fun _ => False) rfl (by rw [size_alloc, size_alloc]; rfl) (k39_mkM _ _ _ ⟨1, n, true, r % 4, n + 1, false⟩) (fun _ hk => hk.elim) (fun _ _ => trivial) HLW.out HBW.out (below_size HBW.out) (by omega) ?_); intro v6 w6 ho hb hg hat; obtain ⟨A6, c6, rfl, hc6, _⟩ := Kd.R_reads ho; rw [List.length_append, List.length_singleton] at ho; have HL6 := Aside0.mk ho; have HB6 := Aside0.mk hb; have HO6 := Aside0.mk (Kd.R_over HOW.out HLW.out (by decide) hg); have HC6 := Aside0.mk (Kd.R_over HCW.out HLW.out (by decide) hg); have BK6 := Aside0.mk (blk_grown BK0.out hg HNE.out); have d0 := (blk_cell BK6.out 0).trans rfl; have d1 := (blk_cell BK6.out 1).trans rfl; have d2 := (blk_cell BK6.out 2).trans rfl; have d3 := (blk_cell BK6.out 3).trans rfl; have d4 := (blk_cell BK6.out 4).trans rfl; have d5 := (blk_cell BK6.out 5).trans rfl; clear ho hb hg hat) | (at_builtin; go_loud (refine Kd.R_append k102 (w0 := w) w.heap.size rfl (.tmp 100) (.tmp 103) 97 102 (.agg #[(.int .i64 0), (.int .i64 0), (.bool false), (.int .i64 0), (.int .i64 0), (.bool false), (.bool false), (.bool false), (.int .i64 0), (.int .i64 0)]) 72 rfl Try.underlying97 info102 rfl (by decide) (by omega) (.slice A4 O.length c4) O ⟨⟨1, n, true, r % 4, n + 1, false⟩, false, false, 0, 0⟩ [.int .i64 1, .int .i64 n, .bool true, .int .i64 (r % 4), .int .i64 (n + 1), .bool false, .bool false, .bool false, .int .i64 0, .int .i64 0] (fun _ => True) (fun _ => False) rfl rfl (k102_mkM _ _ _ ⟨⟨1, n, true, r % 4, n + 1, false⟩, false, false, 0, 0⟩) (fun _ hk => hk.elim) (fun _ _ => trivial) HO6.out HB6.out (below_size HB6.out) (by omega) ?_); intro v7 w7 ho hb hg hat; obtain ⟨A7, c7, rfl, hc7, _⟩ := Kd.R_reads ho; rw [List.length_append, List.length_singleton] at ho; have HO7 := Aside0.mk ho; have HB7 := Aside0.mk hb; have HL7 := Aside0.mk (Kd.R_over HL6.out HO6.out (by decide) hg); have HC7 := Aside0.mk (Kd.R_over HC6.out HO6.out (by decide) hg); clear ho hb hg hat))
    refine ⟨StoInv.mk ⟨x + 1, by omega, by first | rfl | simp, by rw [HN2.out], by rw [HN2.out], by rw [HN2.out]; exact HL7, by rw [HN2.out]; exact HO7, by rw [HN2.out]; exact HC7, HB7⟩, ?_⟩
    simp [StoMu, intOf]; omega
end Go.Proofs.Ytidghmgaaenihaa.Q

/-! part RStoC2 -/
namespace Go.Proofs.Ytidghmgaaenihaa.Q
open Go.RowKit Go.Proofs.YtidghmgaaenihaaW.PrintWords Go.Proofs.YtidghmgaaenihaaW.PrintLast Go.Proofs.YtidghmgaaenihaaW.PrintMore
set_option linter.unusedVariables false
set_option linter.unusedSimpArgs false
set_option maxHeartbeats 40000000 in
set_option maxRecDepth 1000000 in
theorem sto_case2 {script : List S100} {w wr : World} {ad : Addr} {c x : Nat} {k r q : Int} {L : List S39} {O : List MOp} {ch : List (Int × Int)} {sf n : Int} {A3 : Option Addr} {c3 : Nat} {A4 : Option Addr} {c4 : Nat} {A5 : Option Addr} {c5 : Nat} {Qx : Exit → Act → World → Prop}
    {u9 u10 u11 u12 u13 u14 u15 u16 u17 u18 u19 u20 u21 u22 u23 u24 u25 u26 u27 u28 u29 u30 u31 u32 u33 u34 u35 u36 u37 u38 u39 u40 u41 u42 u43 u44 u45 u46 u47 u48 u49 u50 u51 u52 u53 u54 u55 u56 u57 u58 u59 u60 u61 u62 u63 u64 u65 u66 u67 u68 u69 u70 u71 u72 u73 u74 u75 u76 u77 u78 u79 u80 u81 u82 u83 u84 u85 u86 u87 u88 u89 u90 u91 u92 u93 u94 u95 u96 u97 u98 u99 u100 u101 u102 u103 u104 u105 u106 u107 u108 u109 u110 u111 u112 u113 u114 u115 u116 u117 u118 u119 u120 u121 u122 u123 u124 u125 u126 u127 u128 u129 u130 u131 u132 u133 u134 u135 u136 u137 u138 u139 u140 u141 u142 u143 u144 u145 u146 u147 u148 u149 u150 u151 u152 u153 u154 u155 u156 u157 u158 u159 u160 u161 u162 u163 u164 u165 u166 u167 u168 u169 u170 u171 u172 u173 u174 u175 u176 u177 u178 u179 u180 u181 u182 u183 u184 u185 u186 u187 u188 u189 u190 u191 u192 u193 u194 u195 u196 u197 u198 u199 u200 u201 u202 u203 u204 u205 u206 u207 u208 u209 u210 u211 : Value} (H : StoHead script w wr ad c x k r q L O ch sf n A3 c3 A4 c4 A5 c5) (h : k % 8 = 2) :
    Code.wp Try.prog body27 (Exit.then (fun a' w' => StoInv script w (some ad) c a' w' ∧ StoMu script a' < StoMu script ⟨#[.slice (some ad) script.length c, undef, .slice none 0 0, .slice A3 L.length c3, .slice A4 O.length c4, .slice A5 ch.length c5, .int .i64 sf, .int .i64 n, .int .i64 x, u9, u10, u11, u12, u13, u14, u15, u16, u17, u18, u19, u20, u21, u22, u23, u24, u25, u26, u27, u28, u29, u30, u31, u32, u33, u34, u35, u36, u37, u38, u39, u40, u41, u42, u43, u44, u45, u46, u47, u48, u49, u50, u51, u52, u53, u54, u55, u56, u57, u58, u59, u60, u61, u62, u63, u64, u65, u66, u67, u68, u69, u70, u71, u72, u73, u74, u75, u76, u77, u78, u79, u80, u81, u82, u83, u84, u85, u86, u87, u88, u89, u90, u91, u92, u93, u94, u95, u96, u97, u98, u99, u100, u101, u102, u103, u104, u105, u106, u107, u108, u109, u110, u111, u112, u113, u114, u115, u116, u117, u118, u119, u120, u121, u122, u123, u124, u125, u126, u127, u128, u129, u130, u131, u132, u133, u134, u135, u136, u137, u138, u139, u140, u141, u142, u143, u144, u145, u146, u147, u148, u149, u150, u151, u152, u153, u154, u155, u156, u157, u158, u159, u160, u161, u162, u163, u164, u165, u166, u167, u168, u169, u170, u171, u172, u173, u174, u175, u176, u177, u178, u179, u180, u181, u182, u183, u184, u185, u186, u187, u188, u189, u190, u191, u192, u193, u194, u195, u196, u197, u198, u199, u200, u201, u202, u203, u204, u205, u206, u207, u208, u209, u210, u211, undef], []⟩) Qx) ⟨#[.slice (some ad) script.length c, undef, .slice none 0 0, .slice A3 L.length c3, .slice A4 O.length c4, .slice A5 ch.length c5, .int .i64 sf, .int .i64 n, .int .i64 x, u9, u10, u11, u12, u13, u14, u15, u16, u17, u18, u19, u20, u21, u22, u23, u24, u25, u26, u27, u28, u29, u30, u31, u32, u33, u34, u35, u36, u37, u38, u39, u40, u41, u42, u43, u44, u45, u46, u47, u48, u49, u50, u51, u52, u53, u54, u55, u56, u57, u58, u59, u60, u61, u62, u63, u64, u65, u66, u67, u68, u69, u70, u71, u72, u73, u74, u75, u76, u77, u78, u79, u80, u81, u82, u83, u84, u85, u86, u87, u88, u89, u90, u91, u92, u93, u94, u95, u96, u97, u98, u99, u100, u101, u102, u103, u104, u105, u106, u107, u108, u109, u110, u111, u112, u113, u114, u115, u116, u117, u118, u119, u120, u121, u122, u123, u124, u125, u126, u127, u128, u129, u130, u131, u132, u133, u134, u135, u136, u137, u138, u139, u140, u141, u142, u143, u144, u145, u146, u147, u148, u149, u150, u151, u152, u153, u154, u155, u156, u157, u158, u159, u160, u161, u162, u163, u164, u165, u166, u167, u168, u169, u170, u171, u172, u173, u174, u175, u176, u177, u178, u179, u180, u181, u182, u183, u184, u185, u186, u187, u188, u189, u190, u191, u192, u193, u194, u195, u196, u197, u198, u199, u200, u201, u202, u203, u204, u205, u206, u207, u208, u209, u210, u211, undef], []⟩ wr := by
  obtain ⟨HR, hc, hsz, hlt, s0, s1, s2, k0, k1, r0, r1, q0, q1, HN, bl, bo, bc, bn0, bn1, HL, HO, HC, HC4, HC5, hc3, hc4, hc5, sf0, sf1, HB⟩ := H
  have hx : x ≤ script.length := by omega
  have hltb : (x : Int) < (script.length : Int) := by omega
  have hx0 : (0 : Int) ≤ x := by omega
  have hxb : (x : Int) < 1000 := by omega
  have hkk : 0 ≤ k % 8 := by omega
  have hrm := Int.emod_nonneg r (show (4 : Int) ≠ 0 by decide)
  have hrl := Int.emod_lt_of_pos r (show (0 : Int) < 4 by decide)
  have hjm : O.length ≠ 0 → 0 ≤ q % (O.length : Int) ∧ q % (O.length : Int) < O.length := fun h => ⟨Int.emod_nonneg _ (by omega), Int.emod_lt_of_pos _ (by omega)⟩
  have HJM := Aside0.mk hjm
  clear hjm
  conv => arg 2; whnf
  have HN2 : Aside0 (stoN script (x + 1) = ⟨L ++ [⟨1, n, true, r % 4, n + 1, true⟩], O ++ [⟨⟨1, n, true, r % 4, n + 1, true⟩, false, false, 0, 0⟩], ch, sf, n + 1⟩) := ⟨by rw [HN.out]; unfold stoStep stoE; simp only; rw [h]; rfl⟩
  clear HN
  have HB0 := Aside0.mk (show Below wr.heap.size wr ((wr.alloc (.cells #[.int .u8 k, .int .u8 r, .int .u8 q] 100)).alloc (.cells #[.int .i64 1, .int .i64 n, .bool true, .int .i64 (r % 4), .int .i64 (n + 1), .bool true] 39)) from below_alloc (below_alloc (Below.refl _ _) _) _)
  have BK0 := Aside0.mk (show ((wr.alloc (.cells #[.int .u8 k, .int .u8 r, .int .u8 q] 100)).alloc (.cells #[.int .i64 1, .int .i64 n, .bool true, .int .i64 (r % 4), .int .i64 (n + 1), .bool true] 39)).heap[wr.heap.size + 1]? = some (.cells #[.int .i64 1, .int .i64 n, .bool true, .int .i64 (r % 4), .int .i64 (n + 1), .bool true] 39 (0, 0)) from (by have h5 := blk_new (wr.alloc (.cells #[.int .u8 k, .int .u8 r, .int .u8 q] 100)) (.cells #[.int .i64 1, .int .i64 n, .bool true, .int .i64 (r % 4), .int .i64 (n + 1), .bool true] 39); rwa [show (wr.alloc (.cells #[.int .u8 k, .int .u8 r, .int .u8 q] 100)).heap.size = wr.heap.size + 1 by simp] at h5))
  have HBW := Aside0.mk (below_step HB.out HB0.out)
  have HLW := Aside0.mk (Kd.R_below HL.out HB0.out)
  have HOW := Aside0.mk (Kd.R_below HO.out HB0.out)
  have HCW := Aside0.mk (Kd.R_below HC.out HB0.out)
  have HNE := Aside0.mk (show some (wr.heap.size + 1) ≠ (Value.slice A3 L.length c3).ownBlock from fun e => by have := Kd.R_lt HL.out _ e.symm; omega)
  by_cases hol : O.length = 0
  · have holb : ¬ ((O.length : Int) > 0) := by omega
    clear hol
    go_wp2_with (first | (at_builtin; go_loud (refine Kd.R_append k39 (w0 := w) w.heap.size rfl (.tmp 96) (.tmp 98) 22 39 (.agg #[(.int .i64 0), (.int .i64 0), (.bool false), (.int .i64 0), (.int .i64 0), (.bool false)]) 48 rfl Try.underlying22 info39 rfl (by decide) (by omega) (.slice A3 L.length c3) L ⟨1, n, true, r % 4, n + 1, true⟩ [.int .i64 1, .int .i64 n, .bool true, .int .i64 (r % 4), .int .i64 (n + 1), .bool true] (fun _ => True) (fun _ => False) rfl (by rw [size_alloc, size_alloc]; rfl) (k39_mkM _ _ _ ⟨1, n, true, r % 4, n + 1, true⟩) (fun _ hk => hk.elim) (fun _ _ => trivial) HLW.out HBW.out (below_size HBW.out) (by omega) ?_); intro v6 w6 ho hb hg hat; obtain ⟨A6, c6, rfl, hc6, _⟩ := Kd.R_reads ho; rw [List.length_append, List.length_singleton] at ho; have HL6 := Aside0.mk ho; have HB6 := Aside0.mk hb; have HO6 := Aside0.mk (Kd.R_over HOW.out HLW.out (by decide) hg); have HC6 := Aside0.mk (Kd.R_over HCW.out HLW.out (by decide) hg); have BK6 := Aside0.mk (blk_grown BK0.out hg HNE.out); have d0 := (blk_cell BK6.out 0).trans rfl; have d1 := (blk_cell BK6.out 1).trans rfl; have d2 := (blk_cell BK6.out 2).trans rfl; have d3 := (blk_cell BK6.out 3).trans rfl; have d4 := (blk_cell BK6.out 4).trans rfl; have d5 := (blk_cell BK6.out 5).trans rfl; clear ho hb hg hat) | (at_builtin; go_loud (refine Kd.R_append k102 (w0 := w) w.heap.size rfl (.tmp 100) (.tmp 103) 97 102 (.agg #[(.int .i64 0), (.int .i64 0), (.bool false), (.int .i64 0), (.int .i64 0), (.bool false), (.bool false), (.bool false), (.int .i64 0), (.int .i64 0)]) 72 rfl Try.underlying97 info102 rfl (by decide) (by omega) (.slice A4 O.length c4) O ⟨⟨1, n, true, r % 4, n + 1, true⟩, false, false, 0, 0⟩ [.int .i64 1, .int .i64 n, .bool true, .int .i64 (r % 4), .int .i64 (n + 1), .bool true, .bool false, .bool false, .int .i64 0, .int .i64 0] (fun _ => True) (fun _ => False) rfl rfl (k102_mkM _ _ _ ⟨⟨1, n, true, r % 4, n + 1, true⟩, false, false, 0, 0⟩) (fun _ hk => hk.elim) (fun _ _ => trivial) HO6.out HB6.out (below_size HB6.out) (by omega) ?_); intro v7 w7 ho hb hg hat; obtain ⟨A7, c7, rfl, hc7, _⟩ := Kd.R_reads ho; rw [List.length_append, List.length_singleton] at ho; have HO7 := Aside0.mk ho; have HB7 := Aside0.mk hb; have HL7 := Aside0.mk (Kd.R_over HL6.out HO6.out (by decide) hg); have HC7 := Aside0.mk (Kd.R_over HC6.out HO6.out (by decide) hg); clear ho hb hg hat))
    refine ⟨StoInv.mk ⟨x + 1, by omega, by first | rfl | simp, by rw [HN2.out], by rw [HN2.out], by rw [HN2.out]; exact HL7, by rw [HN2.out]; exact HO7, by rw [HN2.out]; exact HC7, HB7⟩, ?_⟩
    simp [StoMu, intOf]; omega
  · have holb : (O.length : Int) > 0 := by omega
    obtain ⟨j0, j1⟩ := HJM.out hol
    clear hol
    go_wp2_with (first | (at_builtin; go_loud (refine Kd.R_append k39 (w0 := w) w.heap.size rfl (.tmp 96) (.tmp 98) 22 39 (.agg #[(.int .i64 0), (.int .i64 0), (.bool false), (.int .i64 0), (.int .i64 0), (.bool false)]) 48 rfl Try.underlying22 info39 rfl (by decide) (by omega) (.slice A3 L.length c3) L ⟨1, n, true, r % 4, n + 1, true⟩ [.int .i64 1, .int .i64 n, .bool true, .int .i64 (r % 4), .int .i64 (n + 1), .bool true] (fun _ => True) (fun _ => False) rfl (by rw [size_alloc, size_alloc]; rfl) (k39_mkM _ _ _ ⟨1, n, true, r % 4, n + 1, true⟩) (fun _ hk => hk.elim) (fun _ _ => trivial) HLW.out HBW.out (below_size HBW.out) (by omega) ?_); intro v6 w6 ho hb hg hat; obtain ⟨A6, c6, rfl, hc6, _⟩ := Kd.R_reads ho; rw [List.length_append, List.length_singleton] at ho; have HL6 := Aside0.mk ho; have HB6 := Aside0.mk hb; have HO6 := Aside0.mk (Kd.R_over HOW.out HLW.out (by decide) hg); have HC6 := Aside0.mk (Kd.R_over HCW.out HLW.out (by decide) hg); have BK6 := Aside0.mk (blk_grown BK0.out hg HNE.out); have d0 := (blk_cell BK6.out 0).trans rfl; have d1 := (blk_cell BK6.out 1).trans rfl; have d2 := (blk_cell BK6.out 2).trans rfl; have d3 := (blk_cell BK6.out 3).trans rfl; have d4 := (blk_cell BK6.out 4).trans rfl; have d5 := (blk_cell BK6.out 5).trans rfl; clear ho hb hg hat) | (at_builtin; go_loud (refine Kd.R_append k102 (w0 := w) w.heap.size rfl (.tmp 100) (.tmp 103) 97 102 (.agg #[(.int .i64 0), (.int .i64 0), (.bool false), (.int .i64 0), (.int .i64 0), (.bool false), (.bool false), (.bool false), (.int .i64 0), (.int .i64 0)]) 72 rfl Try.underlying97 info102 rfl (by decide) (by omega) (.slice A4 O.length c4) O ⟨⟨1, n, true, r % 4, n + 1, true⟩, false, false, 0, 0⟩ [.int .i64 1, .int .i64 n, .bool true, .int .i64 (r % 4), .int .i64 (n + 1), .bool true, .bool false, .bool false, .int .i64 0, .int .i64 0] (fun _ => True) (fun _ => False) rfl rfl (k102_mkM _ _ _ ⟨⟨1, n, true, r % 4, n + 1, true⟩, false, false, 0, 0⟩) (fun _ hk => hk.elim) (fun _ _ => trivial) HO6.out HB6.out (below_size HB6.out) (by omega) ?_); intro v7 w7 ho hb hg hat; obtain ⟨A7, c7, rfl, hc7, _⟩ := Kd.R_reads ho; rw [List.length_append, List.length_singleton] at ho; have HO7 := Aside0.mk ho; have HB7 := Aside0.mk hb; have HL7 := Aside0.mk (Kd.R_over HL6.out HO6.out (by decide) hg); have HC7 := Aside0.mk (Kd.R_over HC6.out HO6.out (by decide) hg); clear ho hb hg hat))
    refine ⟨StoInv.mk ⟨x + 1, by omega, by first | rfl | simp, by rw [HN2.out], by rw [HN2.out], by rw [HN2.out]; exact HL7, by rw [HN2.out]; exact HO7, by rw [HN2.out]; exact HC7, HB7⟩, ?_⟩
    simp [StoMu, intOf]; omega
end Go.Proofs.Ytidghmgaaenihaa.Q

/-! part RStoC3 -/
namespace Go.Proofs.Ytidghmgaaenihaa.Q
open Go.RowKit Go.Proofs.YtidghmgaaenihaaW.PrintWords Go.Proofs.YtidghmgaaenihaaW.PrintLast Go.Proofs.YtidghmgaaenihaaW.PrintMore
set_option linter.unusedVariables false
set_option linter.unusedSimpArgs false
set_option maxHeartbeats 40000000 in
set_option maxRecDepth 1000000 in
theorem sto_case3 {script : List S100} {w wr : World} {ad : Addr} {c x : Nat} {k r q : Int} {L : List S39} {O : List MOp} {ch : List (Int × Int)} {sf n : Int} {A3 : Option Addr} {c3 : Nat} {A4 : Option Addr} {c4 : Nat} {A5 : Option Addr} {c5 : Nat} {Qx : Exit → Act → World → Prop}
    {u9 u10 u11 u12 u13 u14 u15 u16 u17 u18 u19 u20 u21 u22 u23 u24 u25 u26 u27 u28 u29 u30 u31 u32 u33 u34 u35 u36 u37 u38 u39 u40 u41 u42 u43 u44 u45 u46 u47 u48 u49 u50 u51 u52 u53 u54 u55 u56 u57 u58 u59 u60 u61 u62 u63 u64 u65 u66 u67 u68 u69 u70 u71 u72 u73 u74 u75 u76 u77 u78 u79 u80 u81 u82 u83 u84 u85 u86 u87 u88 u89 u90 u91 u92 u93 u94 u95 u96 u97 u98 u99 u100 u101 u102 u103 u104 u105 u106 u107 u108 u109 u110 u111 u112 u113 u114 u115 u116 u117 u118 u119 u120 u121 u122 u123 u124 u125 u126 u127 u128 u129 u130 u131 u132 u133 u134 u135 u136 u137 u138 u139 u140 u141 u142 u143 u144 u145 u146 u147 u148 u149 u150 u151 u152 u153 u154 u155 u156 u157 u158 u159 u160 u161 u162 u163 u164 u165 u166 u167 u168 u169 u170 u171 u172 u173 u174 u175 u176 u177 u178 u179 u180 u181 u182 u183 u184 u185 u186 u187 u188 u189 u190 u191 u192 u193 u194 u195 u196 u197 u198 u199 u200 u201 u202 u203 u204 u205 u206 u207 u208 u209 u210 u211 : Value} (H : StoHead script w wr ad c x k r q L O ch sf n A3 c3 A4 c4 A5 c5) (h : k % 8 = 3) :
    Code.wp Try.prog body27 (Exit.then (fun a' w' => StoInv script w (some ad) c a' w' ∧ StoMu script a' < StoMu script ⟨#[.slice (some ad) script.length c, undef, .slice none 0 0, .slice A3 L.length c3, .slice A4 O.length c4, .slice A5 ch.length c5, .int .i64 sf, .int .i64 n, .int .i64 x, u9, u10, u11, u12, u13, u14, u15, u16, u17, u18, u19, u20, u21, u22, u23, u24, u25, u26, u27, u28, u29, u30, u31, u32, u33, u34, u35, u36, u37, u38, u39, u40, u41, u42, u43, u44, u45, u46, u47, u48, u49, u50, u51, u52, u53, u54, u55, u56, u57, u58, u59, u60, u61, u62, u63, u64, u65, u66, u67, u68, u69, u70, u71, u72, u73, u74, u75, u76, u77, u78, u79, u80, u81, u82, u83, u84, u85, u86, u87, u88, u89, u90, u91, u92, u93, u94, u95, u96, u97, u98, u99, u100, u101, u102, u103, u104, u105, u106, u107, u108, u109, u110, u111, u112, u113, u114, u115, u116, u117, u118, u119, u120, u121, u122, u123, u124, u125, u126, u127, u128, u129, u130, u131, u132, u133, u134, u135, u136, u137, u138, u139, u140, u141, u142, u143, u144, u145, u146, u147, u148, u149, u150, u151, u152, u153, u154, u155, u156, u157, u158, u159, u160, u161, u162, u163, u164, u165, u166, u167, u168, u169, u170, u171, u172, u173, u174, u175, u176, u177, u178, u179, u180, u181, u182, u183, u184, u185, u186, u187, u188, u189, u190, u191, u192, u193, u194, u195, u196, u197, u198, u199, u200, u201, u202, u203, u204, u205, u206, u207, u208, u209, u210, u211, undef], []⟩) Qx) ⟨#[.slice (some ad) script.length c, undef, .slice none 0 0, .slice A3 L.length c3, .slice A4 O.length c4, .slice A5 ch.length c5, .int .i64 sf, .int .i64 n, .int .i64 x, u9, u10, u11, u12, u13, u14, u15, u16, u17, u18, u19, u20, u21, u22, u23, u24, u25, u26, u27, u28, u29, u30, u31, u32, u33, u34, u35, u36, u37, u38, u39, u40, u41, u42, u43, u44, u45, u46, u47, u48, u49, u50, u51, u52, u53, u54, u55, u56, u57, u58, u59, u60, u61, u62, u63, u64, u65, u66, u67, u68, u69, u70, u71, u72, u73, u74, u75, u76, u77, u78, u79, u80, u81, u82, u83, u84, u85, u86, u87, u88, u89, u90, u91, u92, u93, u94, u95, u96, u97, u98, u99, u100, u101, u102, u103, u104, u105, u106, u107, u108, u109, u110, u111, u112, u113, u114, u115, u116, u117, u118, u119, u120, u121, u122, u123, u124, u125, u126, u127, u128, u129, u130, u131, u132, u133, u134, u135, u136, u137, u138, u139, u140, u141, u142, u143, u144, u145, u146, u147, u148, u149, u150, u151, u152, u153, u154, u155, u156, u157, u158, u159, u160, u161, u162, u163, u164, u165, u166, u167, u168, u169, u170, u171, u172, u173, u174, u175, u176, u177, u178, u179, u180, u181, u182, u183, u184, u185, u186, u187, u188, u189, u190, u191, u192, u193, u194, u195, u196, u197, u198, u199, u200, u201, u202, u203, u204, u205, u206, u207, u208, u209, u210, u211, undef], []⟩ wr := by
  obtain ⟨HR, hc, hsz, hlt, s0, s1, s2, k0, k1, r0, r1, q0, q1, HN, bl, bo, bc, bn0, bn1, HL, HO, HC, HC4, HC5, hc3, hc4, hc5, sf0, sf1, HB⟩ := H
  have hx : x ≤ script.length := by omega
  have hltb : (x : Int) < (script.length : Int) := by omega
  have hx0 : (0 : Int) ≤ x := by omega
  have hxb : (x : Int) < 1000 := by omega
  have hkk : 0 ≤ k % 8 := by omega
  have hrm := Int.emod_nonneg r (show (4 : Int) ≠ 0 by decide)
  have hrl := Int.emod_lt_of_pos r (show (0 : Int) < 4 by decide)
  have hjm : O.length ≠ 0 → 0 ≤ q % (O.length : Int) ∧ q % (O.length : Int) < O.length := fun h => ⟨Int.emod_nonneg _ (by omega), Int.emod_lt_of_pos _ (by omega)⟩
  have HJM := Aside0.mk hjm
  clear hjm
  conv => arg 2; whnf
  have HN2 : Aside0 (stoN script (x + 1) = ⟨L ++ [⟨1, n, false, 0, 0, true⟩], O ++ [⟨⟨1, n, false, 0, 0, true⟩, false, false, 0, 0⟩], ch, sf, n + 1⟩) := ⟨by rw [HN.out]; unfold stoStep stoE; simp only; rw [h]; rfl⟩
  clear HN
  have HB0 := Aside0.mk (show Below wr.heap.size wr ((wr.alloc (.cells #[.int .u8 k, .int .u8 r, .int .u8 q] 100)).alloc (.cells #[.int .i64 1, .int .i64 n, .bool false, .int .i64 (0), .int .i64 (0), .bool true] 39)) from below_alloc (below_alloc (Below.refl _ _) _) _)
  have BK0 := Aside0.mk (show ((wr.alloc (.cells #[.int .u8 k, .int .u8 r, .int .u8 q] 100)).alloc (.cells #[.int .i64 1, .int .i64 n, .bool false, .int .i64 (0), .int .i64 (0), .bool true] 39)).heap[wr.heap.size + 1]? = some (.cells #[.int .i64 1, .int .i64 n, .bool false, .int .i64 (0), .int .i64 (0), .bool true] 39 (0, 0)) from (by have h5 := blk_new (wr.alloc (.cells #[.int .u8 k, .int .u8 r, .int .u8 q] 100)) (.cells #[.int .i64 1, .int .i64 n, .bool false, .int .i64 (0), .int .i64 (0), .bool true] 39); rwa [show (wr.alloc (.cells #[.int .u8 k, .int .u8 r, .int .u8 q] 100)).heap.size = wr.heap.size + 1 by simp] at h5))
  have HBW := Aside0.mk (below_step HB.out HB0.out)
  have HLW := Aside0.mk (Kd.R_below HL.out HB0.out)
  have HOW := Aside0.mk (Kd.R_below HO.out HB0.out)
  have HCW := Aside0.mk (Kd.R_below HC.out HB0.out)
  have HNE := Aside0.mk (show some (wr.heap.size + 1) ≠ (Value.slice A3 L.length c3).ownBlock from fun e => by have := Kd.R_lt HL.out _ e.symm; omega)
  by_cases hol : O.length = 0
  · have holb : ¬ ((O.length : Int) > 0) := by omega
    clear hol
    go_wp2_with (first | (at_builtin; go_loud (refine Kd.R_append k39 (w0 := w) w.heap.size rfl (.tmp 96) (.tmp 98) 22 39 (.agg #[(.int .i64 0), (.int .i64 0), (.bool false), (.int .i64 0), (.int .i64 0), (.bool false)]) 48 rfl Try.underlying22 info39 rfl (by decide) (by omega) (.slice A3 L.length c3) L ⟨1, n, false, 0, 0, true⟩ [.int .i64 1, .int .i64 n, .bool false, .int .i64 (0), .int .i64 (0), .bool true] (fun _ => True) (fun _ => False) rfl (by rw [size_alloc, size_alloc]; rfl) (k39_mkM _ _ _ ⟨1, n, false, 0, 0, true⟩) (fun _ hk => hk.elim) (fun _ _ => trivial) HLW.out HBW.out (below_size HBW.out) (by omega) ?_); intro v6 w6 ho hb hg hat; obtain ⟨A6, c6, rfl, hc6, _⟩ := Kd.R_reads ho; rw [List.length_append, List.length_singleton] at ho; have HL6 := Aside0.mk ho; have HB6 := Aside0.mk hb; have HO6 := Aside0.mk (Kd.R_over HOW.out HLW.out (by decide) hg); have HC6 := Aside0.mk (Kd.R_over HCW.out HLW.out (by decide) hg); have BK6 := Aside0.mk (blk_grown BK0.out hg HNE.out); have d0 := (blk_cell BK6.out 0).trans rfl; have d1 := (blk_cell BK6.out 1).trans rfl; have d2 := (blk_cell BK6.out 2).trans rfl; have d3 := (blk_cell BK6.out 3).trans rfl; have d4 := (blk_cell BK6.out 4).trans rfl; have d5 := (blk_cell BK6.out 5).trans rfl; clear ho hb hg hat) | (at_builtin; go_loud (refine Kd.R_append k102 (w0 := w) w.heap.size rfl (.tmp 100) (.tmp 103) 97 102 (.agg #[(.int .i64 0), (.int .i64 0), (.bool false), (.int .i64 0), (.int .i64 0), (.bool false), (.bool false), (.bool false), (.int .i64 0), (.int .i64 0)]) 72 rfl Try.underlying97 info102 rfl (by decide) (by omega) (.slice A4 O.length c4) O ⟨⟨1, n, false, 0, 0, true⟩, false, false, 0, 0⟩ [.int .i64 1, .int .i64 n, .bool false, .int .i64 (0), .int .i64 (0), .bool true, .bool false, .bool false, .int .i64 0, .int .i64 0] (fun _ => True) (fun _ => False) rfl rfl (k102_mkM _ _ _ ⟨⟨1, n, false, 0, 0, true⟩, false, false, 0, 0⟩) (fun _ hk => hk.elim) (fun _ _ => trivial) HO6.out HB6.out (below_size HB6.out) (by omega) ?_); intro v7 w7 ho hb hg hat; obtain ⟨A7, c7, rfl, hc7, _⟩ := Kd.R_reads ho; rw [List.length_append, List.length_singleton] at ho; have HO7 := Aside0.mk ho; have HB7 := Aside0.mk hb; have HL7 := Aside0.mk (Kd.R_over HL6.out HO6.out (by decide) hg); have HC7 := Aside0.mk (Kd.R_over HC6.out HO6.out (by decide) hg); clear ho hb hg hat))
    refine ⟨StoInv.mk ⟨x + 1, by omega, by first | rfl | simp, by rw [HN2.out], by rw [HN2.out], by rw [HN2.out]; exact HL7, by rw [HN2.out]; exact HO7, by rw [HN2.out]; exact HC7, HB7⟩, ?_⟩
    simp [StoMu, intOf]; omega
  · have holb : (O.length : Int) > 0 := by omega
    obtain ⟨j0, j1⟩ := HJM.out hol
    clear hol
    go_wp2_with (first | (at_builtin; go_loud (refine Kd.R_append k39 (w0 := w) w.heap.size rfl (.tmp 96) (.tmp 98) 22 39 (.agg #[(.int .i64 0), (.int .i64 0), (.bool false), (.int .i64 0), (.int .i64 0), (.bool false)]) 48 rfl Try.underlying22 info39 rfl (by decide) (by omega) (.slice A3 L.length c3) L ⟨1, n, false, 0, 0, true⟩ [.int .i64 1, .int .i64 n, .bool false, .int .i64 (0), .int .i64 (0), .bool true] (fun _ => True) (fun _ => False) rfl (by rw [size_alloc, size_alloc]; rfl) (k39_mkM _ _ _ ⟨1, n, false, 0, 0, true⟩) (fun _ hk => hk.elim) (fun _ _ => trivial) HLW.out HBW.out (below_size HBW.out) (by omega) ?_); intro v6 w6 ho hb hg hat; obtain ⟨A6, c6, rfl, hc6, _⟩ := Kd.R_reads ho; rw [List.length_append, List.length_singleton] at ho; have HL6 := Aside0.mk ho; have HB6 := Aside0.mk hb; have HO6 := Aside0.mk (Kd.R_over HOW.out HLW.out (by decide) hg); have HC6 := Aside0.mk (Kd.R_over HCW.out HLW.out (by decide) hg); have BK6 := Aside0.mk (blk_grown BK0.out hg HNE.out); have d0 := (blk_cell BK6.out 0).trans rfl; have d1 := (blk_cell BK6.out 1).trans rfl; have d2 := (blk_cell BK6.out 2).trans rfl; have d3 := (blk_cell BK6.out 3).trans rfl; have d4 := (blk_cell BK6.out 4).trans rfl; have d5 := (blk_cell BK6.out 5).trans rfl; clear ho hb hg hat) | (at_builtin; go_loud (refine Kd.R_append k102 (w0 := w) w.heap.size rfl (.tmp 100) (.tmp 103) 97 102 (.agg #[(.int .i64 0), (.int .i64 0), (.bool false), (.int .i64 0), (.int .i64 0), (.bool false), (.bool false), (.bool false), (.int .i64 0), (.int .i64 0)]) 72 rfl Try.underlying97 info102 rfl (by decide) (by omega) (.slice A4 O.length c4) O ⟨⟨1, n, false, 0, 0, true⟩, false, false, 0, 0⟩ [.int .i64 1, .int .i64 n, .bool false, .int .i64 (0), .int .i64 (0), .bool true, .bool false, .bool false, .int .i64 0, .int .i64 0] (fun _ => True) (fun _ => False) rfl rfl (k102_mkM _ _ _ ⟨⟨1, n, false, 0, 0, true⟩, false, false, 0, 0⟩) (fun _ hk => hk.elim) (fun _ _ => trivial) HO6.out HB6.out (below_size HB6.out) (by omega) ?_); intro v7 w7 ho hb hg hat; obtain ⟨A7, c7, rfl, hc7, _⟩ := Kd.R_reads ho; rw [List.length_append, List.length_singleton] at ho; have HO7 := Aside0.mk ho; have HB7 := Aside0.mk hb; have HL7 := Aside0.mk (Kd.R_over HL6.out HO6.out (by decide) hg); have HC7 := Aside0.mk (Kd.R_over HC6.out HO6.out (by decide) hg); clear ho hb hg hat))
    refine ⟨StoInv.mk ⟨x + 1, by omega, by first | rfl | simp, by rw [HN2.out], by rw [HN2.out], by rw [HN2.out]; exact HL7, by rw [HN2.out]; exact HO7, by rw [HN2.out]; exact HC7, HB7⟩, ?_⟩
    simp [StoMu, intOf]; omega
end Go.Proofs.Ytidghmgaaenihaa.Q

/-! part RStoC4 -/
namespace Go.Proofs.Ytidghmgaaenihaa.Q
open Go.RowKit Go.Proofs.YtidghmgaaenihaaW.PrintWords Go.Proofs.YtidghmgaaenihaaW.PrintLast Go.Proofs.YtidghmgaaenihaaW.PrintMore
set_option linter.unusedVariables false
set_option linter.unusedSimpArgs false
set_option maxHeartbeats 40000000 in
set_option maxRecDepth 1000000 in
theorem sto_case4 {script : List S100} {w wr : World} {ad : Addr} {c x : Nat} {k r q : Int} {L : List S39} {O : List MOp} {ch : List (Int × Int)} {sf n : Int} {A3 : Option Addr} {c3 : Nat} {A4 : Option Addr} {c4 : Nat} {A5 : Option Addr} {c5 : Nat} {Qx : Exit → Act → World → Prop}
    {u9 u10 u11 u12 u13 u14 u15 u16 u17 u18 u19 u20 u21 u22 u23 u24 u25 u26 u27 u28 u29 u30 u31 u32 u33 u34 u35 u36 u37 u38 u39 u40 u41 u42 u43 u44 u45 u46 u47 u48 u49 u50 u51 u52 u53 u54 u55 u56 u57 u58 u59 u60 u61 u62 u63 u64 u65 u66 u67 u68 u69 u70 u71 u72 u73 u74 u75 u76 u77 u78 u79 u80 u81 u82 u83 u84 u85 u86 u87 u88 u89 u90 u91 u92 u93 u94 u95 u96 u97 u98 u99 u100 u101 u102 u103 u104 u105 u106 u107 u108 u109 u110 u111 u112 u113 u114 u115 u116 u117 u118 u119 u120 u121 u122 u123 u124 u125 u126 u127 u128 u129 u130 u131 u132 u133 u134 u135 u136 u137 u138 u139 u140 u141 u142 u143 u144 u145 u146 u147 u148 u149 u150 u151 u152 u153 u154 u155 u156 u157 u158 u159 u160 u161 u162 u163 u164 u165 u166 u167 u168 u169 u170 u171 u172 u173 u174 u175 u176 u177 u178 u179 u180 u181 u182 u183 u184 u185 u186 u187 u188 u189 u190 u191 u192 u193 u194 u195 u196 u197 u198 u199 u200 u201 u202 u203 u204 u205 u206 u207 u208 u209 u210 u211 : Value} (H : StoHead script w wr ad c x k r q L O ch sf n A3 c3 A4 c4 A5 c5) (h : k % 8 = 4) :
    Code.wp Try.prog body27 (Exit.then (fun a' w' => StoInv script w (some ad) c a' w' ∧ StoMu script a' < StoMu script ⟨#[.slice (some ad) script.length c, undef, .slice none 0 0, .slice A3 L.length c3, .slice A4 O.length c4, .slice A5 ch.length c5, .int .i64 sf, .int .i64 n, .int .i64 x, u9, u10, u11, u12, u13, u14, u15, u16, u17, u18, u19, u20, u21, u22, u23, u24, u25, u26, u27, u28, u29, u30, u31, u32, u33, u34, u35, u36, u37, u38, u39, u40, u41, u42, u43, u44, u45, u46, u47, u48, u49, u50, u51, u52, u53, u54, u55, u56, u57, u58, u59, u60, u61, u62, u63, u64, u65, u66, u67, u68, u69, u70, u71, u72, u73, u74, u75, u76, u77, u78, u79, u80, u81, u82, u83, u84, u85, u86, u87, u88, u89, u90, u91, u92, u93, u94, u95, u96, u97, u98, u99, u100, u101, u102, u103, u104, u105, u106, u107, u108, u109, u110, u111, u112, u113, u114, u115, u116, u117, u118, u119, u120, u121, u122, u123, u124, u125, u126, u127, u128, u129, u130, u131, u132, u133, u134, u135, u136, u137, u138, u139, u140, u141, u142, u143, u144, u145, u146, u147, u148, u149, u150, u151, u152, u153, u154, u155, u156, u157, u158, u159, u160, u161, u162, u163, u164, u165, u166, u167, u168, u169, u170, u171, u172, u173, u174, u175, u176, u177, u178, u179, u180, u181, u182, u183, u184, u185, u186, u187, u188, u189, u190, u191, u192, u193, u194, u195, u196, u197, u198, u199, u200, u201, u202, u203, u204, u205, u206, u207, u208, u209, u210, u211, undef], []⟩) Qx) ⟨#[.slice (some ad) script.length c, undef, .slice none 0 0, .slice A3 L.length c3, .slice A4 O.length c4, .slice A5 ch.length c5, .int .i64 sf, .int .i64 n, .int .i64 x, u9, u10, u11, u12, u13, u14, u15, u16, u17, u18, u19, u20, u21, u22, u23, u24, u25, u26, u27, u28, u29, u30, u31, u32, u33, u34, u35, u36, u37, u38, u39, u40, u41, u42, u43, u44, u45, u46, u47, u48, u49, u50, u51, u52, u53, u54, u55, u56, u57, u58, u59, u60, u61, u62, u63, u64, u65, u66, u67, u68, u69, u70, u71, u72, u73, u74, u75, u76, u77, u78, u79, u80, u81, u82, u83, u84, u85, u86, u87, u88, u89, u90, u91, u92, u93, u94, u95, u96, u97, u98, u99, u100, u101, u102, u103, u104, u105, u106, u107, u108, u109, u110, u111, u112, u113, u114, u115, u116, u117, u118, u119, u120, u121, u122, u123, u124, u125, u126, u127, u128, u129, u130, u131, u132, u133, u134, u135, u136, u137, u138, u139, u140, u141, u142, u143, u144, u145, u146, u147, u148, u149, u150, u151, u152, u153, u154, u155, u156, u157, u158, u159, u160, u161, u162, u163, u164, u165, u166, u167, u168, u169, u170, u171, u172, u173, u174, u175, u176, u177, u178, u179, u180, u181, u182, u183, u184, u185, u186, u187, u188, u189, u190, u191, u192, u193, u194, u195, u196, u197, u198, u199, u200, u201, u202, u203, u204, u205, u206, u207, u208, u209, u210, u211, undef], []⟩ wr := by
  obtain ⟨HR, hc, hsz, hlt, s0, s1, s2, k0, k1, r0, r1, q0, q1, HN, bl, bo, bc, bn0, bn1, HL, HO, HC, HC4, HC5, hc3, hc4, hc5, sf0, sf1, HB⟩ := H
  have hx : x ≤ script.length := by omega
  have hltb : (x : Int) < (script.length : Int) := by omega
  have hx0 : (0 : Int) ≤ x := by omega
  have hxb : (x : Int) < 1000 := by omega
  have hkk : 0 ≤ k % 8 := by omega
  have hrm := Int.emod_nonneg r (show (4 : Int) ≠ 0 by decide)
  have hrl := Int.emod_lt_of_pos r (show (0 : Int) < 4 by decide)
  have hjm : O.length ≠ 0 → 0 ≤ q % (O.length : Int) ∧ q % (O.length : Int) < O.length := fun h => ⟨Int.emod_nonneg _ (by omega), Int.emod_lt_of_pos _ (by omega)⟩
  have HJM := Aside0.mk hjm
  clear hjm
  conv => arg 2; whnf
  by_cases hol : O.length = 0
  · have HN2 : Aside0 (stoN script (x + 1) = ⟨L, O, ch, sf, n⟩) := ⟨by rw [HN.out]; unfold stoStep; simp only; rw [h, hol]; rfl⟩
    clear HN
    have holb : ¬ ((O.length : Int) > 0) := by omega
    have HBA := below_alloc (Below.refl wr.heap.size wr) (.cells #[.int .u8 k, .int .u8 r, .int .u8 q] 100)
    have HL6 := Aside0.mk (Kd.R_below HL.out HBA)
    have HO6 := Aside0.mk (Kd.R_below HO.out HBA)
    have HC6 := Aside0.mk (Kd.R_below HC.out HBA)
    have HB6 := Aside0.mk (below_step HB.out HBA)
    clear HBA hol
    go_wp2
    refine ⟨StoInv.mk ⟨x + 1, by omega, by first | rfl | simp, by rw [HN2.out], by rw [HN2.out], by rw [HN2.out]; exact HL6, by rw [HN2.out]; exact HO6, by rw [HN2.out]; exact HC6, HB6⟩, ?_⟩
    simp [StoMu, intOf]; omega
  · obtain ⟨j0, j1⟩ := HJM.out hol
    have holb : (O.length : Int) > 0 := by omega
    obtain ⟨j, hj⟩ : ∃ j : Nat, q % (O.length : Int) = j := ⟨(q % (O.length : Int)).toNat, by omega⟩
    have HJJ : Aside0 (stoJ ⟨L, O, ch, sf, n⟩ ⟨k, r, q⟩ = j) := ⟨by unfold stoJ; simp only; rw [if_neg hol, hj]; rfl⟩
    have hjl : j < O.length := by omega
    have hjb0 : (0 : Int) ≤ (j : Int) := by omega
    have hjb1 : (j : Int) < (O.length : Int) := by omega
    obtain ⟨ad4, rfl⟩ : ∃ ad4, A4 = some ad4 := by obtain ⟨g, cap, hv, _⟩ := Kd.R_form HO.out (by omega); injection hv with ha _ _; exact ⟨_, ha⟩
    obtain ⟨o, HOo⟩ : ∃ o, Aside0 (mAt O j = o) := ⟨_, ⟨rfl⟩⟩
    have HBA := Aside0.mk (below_alloc (Below.refl wr.heap.size wr) (.cells #[.int .u8 k, .int .u8 r, .int .u8 q] 100))
    have HLA := Aside0.mk (Kd.R_below HL.out HBA.out)
    have HOA := Aside0.mk (Kd.R_below HO.out HBA.out)
    have HCA := Aside0.mk (Kd.R_below HC.out HBA.out)
    have HBWA := Aside0.mk (below_step HB.out HBA.out)
    have HMC := Aside0.mk (at_mopc HOA.out hjl)
    have g0 := at_mopc0 HOA.out hjl
    rw [HOo.out] at HMC g0
    obtain ⟨⟨e0, e1, e2, e3, e4, e5⟩, ex, dn, res, ps⟩ := o
    have g1 := HMC.out 1 _ rfl
    have g2 := HMC.out 2 _ rfl
    have g3 := HMC.out 3 _ rfl
    have g4 := HMC.out 4 _ rfl
    have g5 := HMC.out 5 _ rfl
    have g6 := HMC.out 6 _ rfl
    have g7 := HMC.out 7 _ rfl
    have g8 := HMC.out 8 _ rfl
    have g9 := HMC.out 9 _ rfl
    simp only at g0 g1 g2 g3 g4 g5 g6 g7 g8 g9
    clear hol
    cases ex with
    | true =>
      have HN2 : Aside0 (stoN script (x + 1) = ⟨L, O, ch, sf, n⟩) := ⟨by rw [HN.out]; unfold stoStep; simp only; rw [if_neg (by omega), if_pos (by omega), if_neg (by omega), HJJ.out, HOo.out, if_pos rfl]⟩
      clear HN
      go_wp2
      refine ⟨StoInv.mk ⟨x + 1, by omega, by first | rfl | simp, by rw [HN2.out], by rw [HN2.out], by rw [HN2.out]; exact HLA, by rw [HN2.out]; exact HOA, by rw [HN2.out]; exact HCA, HBWA⟩, ?_⟩
      simp [StoMu, intOf]; omega
    | false =>
      have HX : Aside0 (stoN script (x + 1) = stoX ⟨L, O, ch, sf, n⟩ j) := ⟨by rw [HN.out]; unfold stoStep; simp only; rw [if_neg (by omega), if_pos (by omega), if_neg (by omega), HJJ.out, HOo.out, if_neg (by simp)]⟩
      clear HN
      have HB0 := Aside0.mk (show Below wr.heap.size wr ((wr.alloc (.cells #[.int .u8 k, .int .u8 r, .int .u8 q] 100)).alloc (.cells #[.int .i64 e0, .int .i64 e1, .bool e2, .int .i64 e3, .int .i64 e4, .bool e5] 39)) from below_alloc (below_alloc (Below.refl _ _) _) _)
      have BK0 := Aside0.mk (show ((wr.alloc (.cells #[.int .u8 k, .int .u8 r, .int .u8 q] 100)).alloc (.cells #[.int .i64 e0, .int .i64 e1, .bool e2, .int .i64 e3, .int .i64 e4, .bool e5] 39)).heap[wr.heap.size + 1]? = some (.cells #[.int .i64 e0, .int .i64 e1, .bool e2, .int .i64 e3, .int .i64 e4, .bool e5] 39 (0, 0)) from (by have h5 := blk_new (wr.alloc (.cells #[.int .u8 k, .int .u8 r, .int .u8 q] 100)) (.cells #[.int .i64 e0, .int .i64 e1, .bool e2, .int .i64 e3, .int .i64 e4, .bool e5] 39); rwa [show (wr.alloc (.cells #[.int .u8 k, .int .u8 r, .int .u8 q] 100)).heap.size = wr.heap.size + 1 by simp] at h5))
      have HBW := Aside0.mk (below_step HB.out HB0.out)
      have HLW := Aside0.mk (Kd.R_below HL.out HB0.out)
      have HOW := Aside0.mk (Kd.R_below HO.out HB0.out)
      have HCW := Aside0.mk (Kd.R_below HC.out HB0.out)
      have HNE := Aside0.mk (show some (wr.heap.size + 1) ≠ (Value.slice A5 ch.length c5).ownBlock from fun e => by have := Kd.R_lt HC.out _ e.symm; omega)
      have HNO := Aside0.mk (show some (wr.heap.size + 1) ≠ (Value.slice (some ad4) O.length c4).ownBlock from fun e => by have := Kd.R_lt HO.out _ e.symm; omega)
      cases e2 with
      | true =>
        have HN2 : Aside0 (stoN script (x + 1) = ⟨L, O.set j ⟨⟨e0, e1, true, e3, e4, e5⟩, true, dn, res, (ch.length : Int) + 1⟩, ch ++ [(e3, e4)], sf, n⟩) := ⟨by rw [HX.out]; unfold stoX; simp only; rw [HOo.out]; simp⟩
        go_wp2_with (first | (at_builtin; go_loud (refine Kd.R_append k104 (w0 := w) w.heap.size rfl (.tmp 126) (.tmp 132) 98 104 (.agg #[(.int .i64 0), (.int .i64 0)]) 16 rfl Try.underlying98 info104 rfl (by decide) (by omega) (.slice A5 ch.length c5) (chS ch) ⟨e3, e4⟩ [.int .i64 e3, .int .i64 e4] (fun _ => True) (fun _ => False) rfl (by rw [size_alloc, size_alloc]; rfl) (k104_mkM _ _ _ ⟨e3, e4⟩) (fun _ hk => hk.elim) (fun _ _ => trivial) HCW.out HBW.out (below_size HBW.out) (by rw [chS_len]; omega) ?_); intro v6 w6 ho hb hg hat; rw [← chS_snoc] at ho; obtain ⟨A6, c6, hv6, hc6, _⟩ := Kd.R_reads ho; rw [chS_len, List.length_append, List.length_singleton] at hv6 hc6; subst hv6; have HC6 := Aside0.mk ho; have HB6 := Aside0.mk hb; have HO6 := Aside0.mk (Kd.R_over HOW.out HCW.out (by decide) hg); have HL6 := Aside0.mk (Kd.R_over HLW.out HCW.out (by decide) hg); have BK6 := Aside0.mk (blk_grown BK0.out hg HNE.out); have d0 := (blk_cell BK6.out 0).trans rfl; have d1 := (blk_cell BK6.out 1).trans rfl; have d2 := (blk_cell BK6.out 2).trans rfl; have d3 := (blk_cell BK6.out 3).trans rfl; have d4 := (blk_cell BK6.out 4).trans rfl; have d5 := (blk_cell BK6.out 5).trans rfl; clear ho hb hg hat) | ((with_reducible refine gate_ (.store 4 (.tmp 141) (.const (.bool true))) rfl ?_); refine at_mop (w0 := w) rfl rfl 4 (.tmp 141) (.const (.bool true)) rfl j 6 (by omega) (.bool true) ⟨⟨e0, e1, true, e3, e4, e5⟩, true, dn, res, ps⟩ rfl rfl rfl (by kernel_rfl) rfl (by rw [HOo.out]; rfl) HO6.out hjl HB6.out ?_; intro w8 ho hb hg; have HO8 := Aside0.mk ho; have HB8 := Aside0.mk hb; have HL8 := Aside0.mk (Kd.R_over HL6.out HO6.out (by decide) hg); have HC8 := Aside0.mk (Kd.R_over HC6.out HO6.out (by decide) hg); have BK8 := Aside0.mk (blk_grown BK6.out hg HNO.out); clear ho hb hg) | ((with_reducible refine gate_ (.store 3 (.tmp 143) (.tmp 139)) rfl ?_); refine at_mop (w0 := w) rfl rfl 3 (.tmp 143) (.tmp 139) rfl j 9 (by omega) (.int .i64 ((ch.length : Int) + 1)) ⟨⟨e0, e1, true, e3, e4, e5⟩, true, dn, res, (ch.length : Int) + 1⟩ rfl (by first | rfl | (show Value.int _ _ = Value.int _ _; congr 1; done) | (show Value.int _ _ = Value.int _ _; congr 1; omega)) rfl (by kernel_rfl) rfl (by rw [mAt_same _ _ _ hjl]; rfl) HO8.out hjl HB8.out ?_; intro w9 ho hb hg; rw [List.set_set] at ho; have HO9 := Aside0.mk ho; have HB9 := Aside0.mk hb; have HL9 := Aside0.mk (Kd.R_over HL8.out HO8.out (by decide) hg); have HC9 := Aside0.mk (Kd.R_over HC8.out HO8.out (by decide) hg); have BK9 := Aside0.mk (blk_grown BK8.out hg HNO.out); have d0 := (blk_cell BK9.out 0).trans rfl; have d1 := (blk_cell BK9.out 1).trans rfl; have d2 := (blk_cell BK9.out 2).trans rfl; have d3 := (blk_cell BK9.out 3).trans rfl; have d4 := (blk_cell BK9.out 4).trans rfl; have d5 := (blk_cell BK9.out 5).trans rfl; clear ho hb hg))
        refine ⟨StoInv.mk ⟨x + 1, by omega, by first | rfl | simp, by rw [HN2.out], by rw [HN2.out], by rw [HN2.out]; exact HL9, by rw [HN2.out]; exact HO9, by rw [HN2.out]; exact HC9, HB9⟩, ?_⟩
        simp [StoMu, intOf]; omega
      | false =>
        cases e5 with
        | true =>
          have HN2 : Aside0 (stoN script (x + 1) = ⟨L, O.set j ⟨⟨e0, e1, false, e3, e4, true⟩, true, dn, res, (ch.length : Int)⟩, ch, sf, n⟩) := ⟨by rw [HX.out]; unfold stoX; simp only; rw [HOo.out]; simp⟩
          go_wp2_with (first | ((with_reducible refine gate_ (.store 4 (.tmp 141) (.const (.bool true))) rfl ?_); refine at_mop (w0 := w) rfl rfl 4 (.tmp 141) (.const (.bool true)) rfl j 6 (by omega) (.bool true) ⟨⟨e0, e1, false, e3, e4, true⟩, true, dn, res, ps⟩ rfl rfl rfl (by kernel_rfl) rfl (by rw [HOo.out]; rfl) HOW.out hjl HBW.out ?_; intro w8 ho hb hg; have HO8 := Aside0.mk ho; have HB8 := Aside0.mk hb; have HL8 := Aside0.mk (Kd.R_over HLW.out HOW.out (by decide) hg); have HC8 := Aside0.mk (Kd.R_over HCW.out HOW.out (by decide) hg); have BK8 := Aside0.mk (blk_grown BK0.out hg HNO.out); clear ho hb hg) | ((with_reducible refine gate_ (.store 3 (.tmp 143) (.tmp 139)) rfl ?_); refine at_mop (w0 := w) rfl rfl 3 (.tmp 143) (.tmp 139) rfl j 9 (by omega) (.int .i64 ((ch.length : Int))) ⟨⟨e0, e1, false, e3, e4, true⟩, true, dn, res, (ch.length : Int)⟩ rfl (by first | rfl | (show Value.int _ _ = Value.int _ _; congr 1; done) | (show Value.int _ _ = Value.int _ _; congr 1; omega)) rfl (by kernel_rfl) rfl (by rw [mAt_same _ _ _ hjl]; rfl) HO8.out hjl HB8.out ?_; intro w9 ho hb hg; rw [List.set_set] at ho; have HO9 := Aside0.mk ho; have HB9 := Aside0.mk hb; have HL9 := Aside0.mk (Kd.R_over HL8.out HO8.out (by decide) hg); have HC9 := Aside0.mk (Kd.R_over HC8.out HO8.out (by decide) hg); have BK9 := Aside0.mk (blk_grown BK8.out hg HNO.out); have d0 := (blk_cell BK9.out 0).trans rfl; have d1 := (blk_cell BK9.out 1).trans rfl; have d2 := (blk_cell BK9.out 2).trans rfl; have d3 := (blk_cell BK9.out 3).trans rfl; have d4 := (blk_cell BK9.out 4).trans rfl; have d5 := (blk_cell BK9.out 5).trans rfl; clear ho hb hg))
          refine ⟨StoInv.mk ⟨x + 1, by omega, by first | rfl | simp, by rw [HN2.out], by rw [HN2.out], by rw [HN2.out]; exact HL9, by rw [HN2.out]; exact HO9, by rw [HN2.out]; exact HC9, HB9⟩, ?_⟩
          simp [StoMu, intOf]; omega
        | false =>
          have HN2 : Aside0 (stoN script (x + 1) = ⟨L, O.set j ⟨⟨e0, e1, false, e3, e4, false⟩, true, dn, valM ch e3, (ch.length : Int)⟩, ch, sf, n⟩) := ⟨by rw [HX.out]; unfold stoX; simp only; rw [HOo.out]; simp⟩
          have HVF := Aside0.mk (value_f ch e3 (by omega))
          go_wp2_with (first | ((with_reducible refine gate_ (.store 4 (.tmp 141) (.const (.bool true))) rfl ?_); refine at_mop (w0 := w) rfl rfl 4 (.tmp 141) (.const (.bool true)) rfl j 6 (by omega) (.bool true) ⟨⟨e0, e1, false, e3, e4, false⟩, true, dn, res, ps⟩ rfl rfl rfl (by kernel_rfl) rfl (by rw [HOo.out]; rfl) HOW.out hjl HBW.out ?_; intro w8 ho hb hg; have HO8 := Aside0.mk ho; have HB8 := Aside0.mk hb; have HL8 := Aside0.mk (Kd.R_over HLW.out HOW.out (by decide) hg); have HC8 := Aside0.mk (Kd.R_over HCW.out HOW.out (by decide) hg); have BK8 := Aside0.mk (blk_grown BK0.out hg HNO.out); clear ho hb hg) | ((with_reducible refine gate_ (.store 3 (.tmp 143) (.tmp 139)) rfl ?_); refine at_mop (w0 := w) rfl rfl 3 (.tmp 143) (.tmp 139) rfl j 9 (by omega) (.int .i64 ((ch.length : Int))) ⟨⟨e0, e1, false, e3, e4, false⟩, true, dn, res, (ch.length : Int)⟩ rfl (by first | rfl | (show Value.int _ _ = Value.int _ _; congr 1; done) | (show Value.int _ _ = Value.int _ _; congr 1; omega)) rfl (by kernel_rfl) rfl (by rw [mAt_same _ _ _ hjl]; rfl) HO8.out hjl HB8.out ?_; intro w9 ho hb hg; rw [List.set_set] at ho; have HO9 := Aside0.mk ho; have HB9 := Aside0.mk hb; have HL9 := Aside0.mk (Kd.R_over HL8.out HO8.out (by decide) hg); have HC9 := Aside0.mk (Kd.R_over HC8.out HO8.out (by decide) hg); have BK9 := Aside0.mk (blk_grown BK8.out hg HNO.out); have d0 := (blk_cell BK9.out 0).trans rfl; have d1 := (blk_cell BK9.out 1).trans rfl; have d2 := (blk_cell BK9.out 2).trans rfl; have d3 := (blk_cell BK9.out 3).trans rfl; have d4 := (blk_cell BK9.out 4).trans rfl; have d5 := (blk_cell BK9.out 5).trans rfl; clear ho hb hg))
          have HC9r := Aside0.mk (show Kd.C k104 w9 A5 (chS ch).length (chS ch) from (Kd.R_reads' HC9.out).2.2)
          have HV9 := Aside0.mk (tegularef47_value.calls (ch.length + 1) A5 c5 (chS ch) e3 (valM ch e3) w9 HC9r.out (by rw [chS_len]; omega) HVF.out)
          rw [chS_len] at HV9
          (with_reducible refine HV9.out.mono ?_)
          rintro e wv ⟨rfl, hD⟩
          have hbv := hD.below
          have HLv := Aside0.mk (Kd.R_below HL9.out hbv)
          have HOv := Aside0.mk (Kd.R_below HO9.out hbv)
          have HCv := Aside0.mk (Kd.R_below HC9.out hbv)
          have HBv := Aside0.mk (below_step HB9.out hbv)
          clear hD hbv d0 d1 d2 d3 d4 d5
          go_wp2_with ((with_reducible refine gate_ (.store 3 (.tmp 159) (.tmp 157)) rfl ?_); refine at_mop (w0 := w) rfl rfl 3 (.tmp 159) (.tmp 157) rfl j 8 (by omega) (.int .i64 (valM ch e3)) ⟨⟨e0, e1, false, e3, e4, false⟩, true, dn, valM ch e3, (ch.length : Int)⟩ rfl rfl rfl (by kernel_rfl) rfl (by rw [mAt_same _ _ _ hjl]; rfl) HOv.out hjl HBv.out ?_; intro w10 ho hb hg; rw [List.set_set] at ho; have HO9 := Aside0.mk ho; have HB9 := Aside0.mk hb; have HL9 := Aside0.mk (Kd.R_over HLv.out HOv.out (by decide) hg); have HC9 := Aside0.mk (Kd.R_over HCv.out HOv.out (by decide) hg); clear ho hb hg)
          refine ⟨StoInv.mk ⟨x + 1, by omega, by first | rfl | simp, by rw [HN2.out], by rw [HN2.out], by rw [HN2.out]; exact HL9, by rw [HN2.out]; exact HO9, by rw [HN2.out]; exact HC9, HB9⟩, ?_⟩
          simp [StoMu, intOf]; omega
end Go.Proofs.Ytidghmgaaenihaa.Q

/-! part RStoC5 -/
namespace Go.Proofs.Ytidghmgaaenihaa.Q
open Go.RowKit Go.Proofs.YtidghmgaaenihaaW.PrintWords Go.Proofs.YtidghmgaaenihaaW.PrintLast Go.Proofs.YtidghmgaaenihaaW.PrintMore
set_option linter.unusedVariables false
set_option linter.unusedSimpArgs false
set_option maxHeartbeats 40000000 in
set_option maxRecDepth 1000000 in
theorem sto_case5 {script : List S100} {w wr : World} {ad : Addr} {c x : Nat} {k r q : Int} {L : List S39} {O : List MOp} {ch : List (Int × Int)} {sf n : Int} {A3 : Option Addr} {c3 : Nat} {A4 : Option Addr} {c4 : Nat} {A5 : Option Addr} {c5 : Nat} {Qx : Exit → Act → World → Prop}
    {u9 u10 u11 u12 u13 u14 u15 u16 u17 u18 u19 u20 u21 u22 u23 u24 u25 u26 u27 u28 u29 u30 u31 u32 u33 u34 u35 u36 u37 u38 u39 u40 u41 u42 u43 u44 u45 u46 u47 u48 u49 u50 u51 u52 u53 u54 u55 u56 u57 u58 u59 u60 u61 u62 u63 u64 u65 u66 u67 u68 u69 u70 u71 u72 u73 u74 u75 u76 u77 u78 u79 u80 u81 u82 u83 u84 u85 u86 u87 u88 u89 u90 u91 u92 u93 u94 u95 u96 u97 u98 u99 u100 u101 u102 u103 u104 u105 u106 u107 u108 u109 u110 u111 u112 u113 u114 u115 u116 u117 u118 u119 u120 u121 u122 u123 u124 u125 u126 u127 u128 u129 u130 u131 u132 u133 u134 u135 u136 u137 u138 u139 u140 u141 u142 u143 u144 u145 u146 u147 u148 u149 u150 u151 u152 u153 u154 u155 u156 u157 u158 u159 u160 u161 u162 u163 u164 u165 u166 u167 u168 u169 u170 u171 u172 u173 u174 u175 u176 u177 u178 u179 u180 u181 u182 u183 u184 u185 u186 u187 u188 u189 u190 u191 u192 u193 u194 u195 u196 u197 u198 u199 u200 u201 u202 u203 u204 u205 u206 u207 u208 u209 u210 u211 : Value} (H : StoHead script w wr ad c x k r q L O ch sf n A3 c3 A4 c4 A5 c5) (h : k % 8 = 5) :
    Code.wp Try.prog body27 (Exit.then (fun a' w' => StoInv script w (some ad) c a' w' ∧ StoMu script a' < StoMu script ⟨#[.slice (some ad) script.length c, undef, .slice none 0 0, .slice A3 L.length c3, .slice A4 O.length c4, .slice A5 ch.length c5, .int .i64 sf, .int .i64 n, .int .i64 x, u9, u10, u11, u12, u13, u14, u15, u16, u17, u18, u19, u20, u21, u22, u23, u24, u25, u26, u27, u28, u29, u30, u31, u32, u33, u34, u35, u36, u37, u38, u39, u40, u41, u42, u43, u44, u45, u46, u47, u48, u49, u50, u51, u52, u53, u54, u55, u56, u57, u58, u59, u60, u61, u62, u63, u64, u65, u66, u67, u68, u69, u70, u71, u72, u73, u74, u75, u76, u77, u78, u79, u80, u81, u82, u83, u84, u85, u86, u87, u88, u89, u90, u91, u92, u93, u94, u95, u96, u97, u98, u99, u100, u101, u102, u103, u104, u105, u106, u107, u108, u109, u110, u111, u112, u113, u114, u115, u116, u117, u118, u119, u120, u121, u122, u123, u124, u125, u126, u127, u128, u129, u130, u131, u132, u133, u134, u135, u136, u137, u138, u139, u140, u141, u142, u143, u144, u145, u146, u147, u148, u149, u150, u151, u152, u153, u154, u155, u156, u157, u158, u159, u160, u161, u162, u163, u164, u165, u166, u167, u168, u169, u170, u171, u172, u173, u174, u175, u176, u177, u178, u179, u180, u181, u182, u183, u184, u185, u186, u187, u188, u189, u190, u191, u192, u193, u194, u195, u196, u197, u198, u199, u200, u201, u202, u203, u204, u205, u206, u207, u208, u209, u210, u211, undef], []⟩) Qx) ⟨#[.slice (some ad) script.length c, undef, .slice none 0 0, .slice A3 L.length c3, .slice A4 O.length c4, .slice A5 ch.length c5, .int .i64 sf, .int .i64 n, .int .i64 x, u9, u10, u11, u12, u13, u14, u15, u16, u17, u18, u19, u20, u21, u22, u23, u24, u25, u26, u27, u28, u29, u30, u31, u32, u33, u34, u35, u36, u37, u38, u39, u40, u41, u42, u43, u44, u45, u46, u47, u48, u49, u50, u51, u52, u53, u54, u55, u56, u57, u58, u59, u60, u61, u62, u63, u64, u65, u66, u67, u68, u69, u70, u71, u72, u73, u74, u75, u76, u77, u78, u79, u80, u81, u82, u83, u84, u85, u86, u87, u88, u89, u90, u91, u92, u93, u94, u95, u96, u97, u98, u99, u100, u101, u102, u103, u104, u105, u106, u107, u108, u109, u110, u111, u112, u113, u114, u115, u116, u117, u118, u119, u120, u121, u122, u123, u124, u125, u126, u127, u128, u129, u130, u131, u132, u133, u134, u135, u136, u137, u138, u139, u140, u141, u142, u143, u144, u145, u146, u147, u148, u149, u150, u151, u152, u153, u154, u155, u156, u157, u158, u159, u160, u161, u162, u163, u164, u165, u166, u167, u168, u169, u170, u171, u172, u173, u174, u175, u176, u177, u178, u179, u180, u181, u182, u183, u184, u185, u186, u187, u188, u189, u190, u191, u192, u193, u194, u195, u196, u197, u198, u199, u200, u201, u202, u203, u204, u205, u206, u207, u208, u209, u210, u211, undef], []⟩ wr := by
  obtain ⟨HR, hc, hsz, hlt, s0, s1, s2, k0, k1, r0, r1, q0, q1, HN, bl, bo, bc, bn0, bn1, HL, HO, HC, HC4, HC5, hc3, hc4, hc5, sf0, sf1, HB⟩ := H
  have hx : x ≤ script.length := by omega
  have hltb : (x : Int) < (script.length : Int) := by omega
  have hx0 : (0 : Int) ≤ x := by omega
  have hxb : (x : Int) < 1000 := by omega
  have hkk : 0 ≤ k % 8 := by omega
  have hrm := Int.emod_nonneg r (show (4 : Int) ≠ 0 by decide)
  have hrl := Int.emod_lt_of_pos r (show (0 : Int) < 4 by decide)
  have hjm : O.length ≠ 0 → 0 ≤ q % (O.length : Int) ∧ q % (O.length : Int) < O.length := fun h => ⟨Int.emod_nonneg _ (by omega), Int.emod_lt_of_pos _ (by omega)⟩
  have HJM := Aside0.mk hjm
  clear hjm
  conv => arg 2; whnf
  by_cases hol : O.length = 0
  · have HN2 : Aside0 (stoN script (x + 1) = ⟨L, O, ch, sf, n⟩) := ⟨by rw [HN.out]; unfold stoStep; simp only; rw [h, hol]; rfl⟩
    clear HN
    have holb : ¬ ((O.length : Int) > 0) := by omega
    have HBA := below_alloc (Below.refl wr.heap.size wr) (.cells #[.int .u8 k, .int .u8 r, .int .u8 q] 100)
    have HL6 := Aside0.mk (Kd.R_below HL.out HBA)
    have HO6 := Aside0.mk (Kd.R_below HO.out HBA)
    have HC6 := Aside0.mk (Kd.R_below HC.out HBA)
    have HB6 := Aside0.mk (below_step HB.out HBA)
    clear HBA hol
    go_wp2
    refine ⟨StoInv.mk ⟨x + 1, by omega, by first | rfl | simp, by rw [HN2.out], by rw [HN2.out], by rw [HN2.out]; exact HL6, by rw [HN2.out]; exact HO6, by rw [HN2.out]; exact HC6, HB6⟩, ?_⟩
    simp [StoMu, intOf]; omega
  · obtain ⟨j0, j1⟩ := HJM.out hol
    have holb : (O.length : Int) > 0 := by omega
    obtain ⟨j, hj⟩ : ∃ j : Nat, q % (O.length : Int) = j := ⟨(q % (O.length : Int)).toNat, by omega⟩
    have HJJ : Aside0 (stoJ ⟨L, O, ch, sf, n⟩ ⟨k, r, q⟩ = j) := ⟨by unfold stoJ; simp only; rw [if_neg hol, hj]; rfl⟩
    have hjl : j < O.length := by omega
    have hjb0 : (0 : Int) ≤ (j : Int) := by omega
    have hjb1 : (j : Int) < (O.length : Int) := by omega
    obtain ⟨ad4, rfl⟩ : ∃ ad4, A4 = some ad4 := by obtain ⟨g, cap, hv, _⟩ := Kd.R_form HO.out (by omega); injection hv with ha _ _; exact ⟨_, ha⟩
    obtain ⟨o, HOo⟩ : ∃ o, Aside0 (mAt O j = o) := ⟨_, ⟨rfl⟩⟩
    have HBA := Aside0.mk (below_alloc (Below.refl wr.heap.size wr) (.cells #[.int .u8 k, .int .u8 r, .int .u8 q] 100))
    have HLA := Aside0.mk (Kd.R_below HL.out HBA.out)
    have HOA := Aside0.mk (Kd.R_below HO.out HBA.out)
    have HCA := Aside0.mk (Kd.R_below HC.out HBA.out)
    have HBWA := Aside0.mk (below_step HB.out HBA.out)
    have HMC := Aside0.mk (at_mopc HOA.out hjl)
    have g0 := at_mopc0 HOA.out hjl
    rw [HOo.out] at HMC g0
    obtain ⟨⟨e0, e1, e2, e3, e4, e5⟩, ex, dn, res, ps⟩ := o
    have g1 := HMC.out 1 _ rfl
    have g2 := HMC.out 2 _ rfl
    have g3 := HMC.out 3 _ rfl
    have g4 := HMC.out 4 _ rfl
    have g5 := HMC.out 5 _ rfl
    have g6 := HMC.out 6 _ rfl
    have g7 := HMC.out 7 _ rfl
    have g8 := HMC.out 8 _ rfl
    have g9 := HMC.out 9 _ rfl
    simp only at g0 g1 g2 g3 g4 g5 g6 g7 g8 g9
    clear hol
    cases ex with
    | true =>
      have HN2 : Aside0 (stoN script (x + 1) = ⟨L, O, ch, sf, n⟩) := ⟨by rw [HN.out]; unfold stoStep; simp only; rw [if_neg (by omega), if_pos (by omega), if_neg (by omega), HJJ.out, HOo.out, if_pos rfl]⟩
      clear HN
      go_wp2
      refine ⟨StoInv.mk ⟨x + 1, by omega, by first | rfl | simp, by rw [HN2.out], by rw [HN2.out], by rw [HN2.out]; exact HLA, by rw [HN2.out]; exact HOA, by rw [HN2.out]; exact HCA, HBWA⟩, ?_⟩
      simp [StoMu, intOf]; omega
    | false =>
      have HX : Aside0 (stoN script (x + 1) = stoX ⟨L, O, ch, sf, n⟩ j) := ⟨by rw [HN.out]; unfold stoStep; simp only; rw [if_neg (by omega), if_pos (by omega), if_neg (by omega), HJJ.out, HOo.out, if_neg (by simp)]⟩
      clear HN
      have HB0 := Aside0.mk (show Below wr.heap.size wr ((wr.alloc (.cells #[.int .u8 k, .int .u8 r, .int .u8 q] 100)).alloc (.cells #[.int .i64 e0, .int .i64 e1, .bool e2, .int .i64 e3, .int .i64 e4, .bool e5] 39)) from below_alloc (below_alloc (Below.refl _ _) _) _)
      have BK0 := Aside0.mk (show ((wr.alloc (.cells #[.int .u8 k, .int .u8 r, .int .u8 q] 100)).alloc (.cells #[.int .i64 e0, .int .i64 e1, .bool e2, .int .i64 e3, .int .i64 e4, .bool e5] 39)).heap[wr.heap.size + 1]? = some (.cells #[.int .i64 e0, .int .i64 e1, .bool e2, .int .i64 e3, .int .i64 e4, .bool e5] 39 (0, 0)) from (by have h5 := blk_new (wr.alloc (.cells #[.int .u8 k, .int .u8 r, .int .u8 q] 100)) (.cells #[.int .i64 e0, .int .i64 e1, .bool e2, .int .i64 e3, .int .i64 e4, .bool e5] 39); rwa [show (wr.alloc (.cells #[.int .u8 k, .int .u8 r, .int .u8 q] 100)).heap.size = wr.heap.size + 1 by simp] at h5))
      have HBW := Aside0.mk (below_step HB.out HB0.out)
      have HLW := Aside0.mk (Kd.R_below HL.out HB0.out)
      have HOW := Aside0.mk (Kd.R_below HO.out HB0.out)
      have HCW := Aside0.mk (Kd.R_below HC.out HB0.out)
      have HNE := Aside0.mk (show some (wr.heap.size + 1) ≠ (Value.slice A5 ch.length c5).ownBlock from fun e => by have := Kd.R_lt HC.out _ e.symm; omega)
      have HNO := Aside0.mk (show some (wr.heap.size + 1) ≠ (Value.slice (some ad4) O.length c4).ownBlock from fun e => by have := Kd.R_lt HO.out _ e.symm; omega)
      cases e2 with
      | true =>
        have HN2 : Aside0 (stoN script (x + 1) = ⟨L, O.set j ⟨⟨e0, e1, true, e3, e4, e5⟩, true, dn, res, (ch.length : Int) + 1⟩, ch ++ [(e3, e4)], sf, n⟩) := ⟨by rw [HX.out]; unfold stoX; simp only; rw [HOo.out]; simp⟩
        go_wp2_with (first | (at_builtin; go_loud (refine Kd.R_append k104 (w0 := w) w.heap.size rfl (.tmp 126) (.tmp 132) 98 104 (.agg #[(.int .i64 0), (.int .i64 0)]) 16 rfl Try.underlying98 info104 rfl (by decide) (by omega) (.slice A5 ch.length c5) (chS ch) ⟨e3, e4⟩ [.int .i64 e3, .int .i64 e4] (fun _ => True) (fun _ => False) rfl (by rw [size_alloc, size_alloc]; rfl) (k104_mkM _ _ _ ⟨e3, e4⟩) (fun _ hk => hk.elim) (fun _ _ => trivial) HCW.out HBW.out (below_size HBW.out) (by rw [chS_len]; omega) ?_); intro v6 w6 ho hb hg hat; rw [← chS_snoc] at ho; obtain ⟨A6, c6, hv6, hc6, _⟩ := Kd.R_reads ho; rw [chS_len, List.length_append, List.length_singleton] at hv6 hc6; subst hv6; have HC6 := Aside0.mk ho; have HB6 := Aside0.mk hb; have HO6 := Aside0.mk (Kd.R_over HOW.out HCW.out (by decide) hg); have HL6 := Aside0.mk (Kd.R_over HLW.out HCW.out (by decide) hg); have BK6 := Aside0.mk (blk_grown BK0.out hg HNE.out); have d0 := (blk_cell BK6.out 0).trans rfl; have d1 := (blk_cell BK6.out 1).trans rfl; have d2 := (blk_cell BK6.out 2).trans rfl; have d3 := (blk_cell BK6.out 3).trans rfl; have d4 := (blk_cell BK6.out 4).trans rfl; have d5 := (blk_cell BK6.out 5).trans rfl; clear ho hb hg hat) | ((with_reducible refine gate_ (.store 4 (.tmp 141) (.const (.bool true))) rfl ?_); refine at_mop (w0 := w) rfl rfl 4 (.tmp 141) (.const (.bool true)) rfl j 6 (by omega) (.bool true) ⟨⟨e0, e1, true, e3, e4, e5⟩, true, dn, res, ps⟩ rfl rfl rfl (by kernel_rfl) rfl (by rw [HOo.out]; rfl) HO6.out hjl HB6.out ?_; intro w8 ho hb hg; have HO8 := Aside0.mk ho; have HB8 := Aside0.mk hb; have HL8 := Aside0.mk (Kd.R_over HL6.out HO6.out (by decide) hg); have HC8 := Aside0.mk (Kd.R_over HC6.out HO6.out (by decide) hg); have BK8 := Aside0.mk (blk_grown BK6.out hg HNO.out); clear ho hb hg) | ((with_reducible refine gate_ (.store 3 (.tmp 143) (.tmp 139)) rfl ?_); refine at_mop (w0 := w) rfl rfl 3 (.tmp 143) (.tmp 139) rfl j 9 (by omega) (.int .i64 ((ch.length : Int) + 1)) ⟨⟨e0, e1, true, e3, e4, e5⟩, true, dn, res, (ch.length : Int) + 1⟩ rfl (by first | rfl | (show Value.int _ _ = Value.int _ _; congr 1; done) | (show Value.int _ _ = Value.int _ _; congr 1; omega)) rfl (by kernel_rfl) rfl (by rw [mAt_same _ _ _ hjl]; rfl) HO8.out hjl HB8.out ?_; intro w9 ho hb hg; rw [List.set_set] at ho; have HO9 := Aside0.mk ho; have HB9 := Aside0.mk hb; have HL9 := Aside0.mk (Kd.R_over HL8.out HO8.out (by decide) hg); have HC9 := Aside0.mk (Kd.R_over HC8.out HO8.out (by decide) hg); have BK9 := Aside0.mk (blk_grown BK8.out hg HNO.out); have d0 := (blk_cell BK9.out 0).trans rfl; have d1 := (blk_cell BK9.out 1).trans rfl; have d2 := (blk_cell BK9.out 2).trans rfl; have d3 := (blk_cell BK9.out 3).trans rfl; have d4 := (blk_cell BK9.out 4).trans rfl; have d5 := (blk_cell BK9.out 5).trans rfl; clear ho hb hg))
        refine ⟨StoInv.mk ⟨x + 1, by omega, by first | rfl | simp, by rw [HN2.out], by rw [HN2.out], by rw [HN2.out]; exact HL9, by rw [HN2.out]; exact HO9, by rw [HN2.out]; exact HC9, HB9⟩, ?_⟩
        simp [StoMu, intOf]; omega
      | false =>
        cases e5 with
        | true =>
          have HN2 : Aside0 (stoN script (x + 1) = ⟨L, O.set j ⟨⟨e0, e1, false, e3, e4, true⟩, true, dn, res, (ch.length : Int)⟩, ch, sf, n⟩) := ⟨by rw [HX.out]; unfold stoX; simp only; rw [HOo.out]; simp⟩
          go_wp2_with (first | ((with_reducible refine gate_ (.store 4 (.tmp 141) (.const (.bool true))) rfl ?_); refine at_mop (w0 := w) rfl rfl 4 (.tmp 141) (.const (.bool true)) rfl j 6 (by omega) (.bool true) ⟨⟨e0, e1, false, e3, e4, true⟩, true, dn, res, ps⟩ rfl rfl rfl (by kernel_rfl) rfl (by rw [HOo.out]; rfl) HOW.out hjl HBW.out ?_; intro w8 ho hb hg; have HO8 := Aside0.mk ho; have HB8 := Aside0.mk hb; have HL8 := Aside0.mk (Kd.R_over HLW.out HOW.out (by decide) hg); have HC8 := Aside0.mk (Kd.R_over HCW.out HOW.out (by decide) hg); have BK8 := Aside0.mk (blk_grown BK0.out hg HNO.out); clear ho hb hg) | ((with_reducible refine gate_ (.store 3 (.tmp 143) (.tmp 139)) rfl ?_); refine at_mop (w0 := w) rfl rfl 3 (.tmp 143) (.tmp 139) rfl j 9 (by omega) (.int .i64 ((ch.length : Int))) ⟨⟨e0, e1, false, e3, e4, true⟩, true, dn, res, (ch.length : Int)⟩ rfl (by first | rfl | (show Value.int _ _ = Value.int _ _; congr 1; done) | (show Value.int _ _ = Value.int _ _; congr 1; omega)) rfl (by kernel_rfl) rfl (by rw [mAt_same _ _ _ hjl]; rfl) HO8.out hjl HB8.out ?_; intro w9 ho hb hg; rw [List.set_set] at ho; have HO9 := Aside0.mk ho; have HB9 := Aside0.mk hb; have HL9 := Aside0.mk (Kd.R_over HL8.out HO8.out (by decide) hg); have HC9 := Aside0.mk (Kd.R_over HC8.out HO8.out (by decide) hg); have BK9 := Aside0.mk (blk_grown BK8.out hg HNO.out); have d0 := (blk_cell BK9.out 0).trans rfl; have d1 := (blk_cell BK9.out 1).trans rfl; have d2 := (blk_cell BK9.out 2).trans rfl; have d3 := (blk_cell BK9.out 3).trans rfl; have d4 := (blk_cell BK9.out 4).trans rfl; have d5 := (blk_cell BK9.out 5).trans rfl; clear ho hb hg))
          refine ⟨StoInv.mk ⟨x + 1, by omega, by first | rfl | simp, by rw [HN2.out], by rw [HN2.out], by rw [HN2.out]; exact HL9, by rw [HN2.out]; exact HO9, by rw [HN2.out]; exact HC9, HB9⟩, ?_⟩
          simp [StoMu, intOf]; omega
        | false =>
          have HN2 : Aside0 (stoN script (x + 1) = ⟨L, O.set j ⟨⟨e0, e1, false, e3, e4, false⟩, true, dn, valM ch e3, (ch.length : Int)⟩, ch, sf, n⟩) := ⟨by rw [HX.out]; unfold stoX; simp only; rw [HOo.out]; simp⟩
          have HVF := Aside0.mk (value_f ch e3 (by omega))
          go_wp2_with (first | ((with_reducible refine gate_ (.store 4 (.tmp 141) (.const (.bool true))) rfl ?_); refine at_mop (w0 := w) rfl rfl 4 (.tmp 141) (.const (.bool true)) rfl j 6 (by omega) (.bool true) ⟨⟨e0, e1, false, e3, e4, false⟩, true, dn, res, ps⟩ rfl rfl rfl (by kernel_rfl) rfl (by rw [HOo.out]; rfl) HOW.out hjl HBW.out ?_; intro w8 ho hb hg; have HO8 := Aside0.mk ho; have HB8 := Aside0.mk hb; have HL8 := Aside0.mk (Kd.R_over HLW.out HOW.out (by decide) hg); have HC8 := Aside0.mk (Kd.R_over HCW.out HOW.out (by decide) hg); have BK8 := Aside0.mk (blk_grown BK0.out hg HNO.out); clear ho hb hg) | ((with_reducible refine gate_ (.store 3 (.tmp 143) (.tmp 139)) rfl ?_); refine at_mop (w0 := w) rfl rfl 3 (.tmp 143) (.tmp 139) rfl j 9 (by omega) (.int .i64 ((ch.length : Int))) ⟨⟨e0, e1, false, e3, e4, false⟩, true, dn, res, (ch.length : Int)⟩ rfl (by first | rfl | (show Value.int _ _ = Value.int _ _; congr 1; done) | (show Value.int _ _ = Value.int _ _; congr 1; omega)) rfl (by kernel_rfl) rfl (by rw [mAt_same _ _ _ hjl]; rfl) HO8.out hjl HB8.out ?_; intro w9 ho hb hg; rw [List.set_set] at ho; have HO9 := Aside0.mk ho; have HB9 := Aside0.mk hb; have HL9 := Aside0.mk (Kd.R_over HL8.out HO8.out (by decide) hg); have HC9 := Aside0.mk (Kd.R_over HC8.out HO8.out (by decide) hg); have BK9 := Aside0.mk (blk_grown BK8.out hg HNO.out); have d0 := (blk_cell BK9.out 0).trans rfl; have d1 := (blk_cell BK9.out 1).trans rfl; have d2 := (blk_cell BK9.out 2).trans rfl; have d3 := (blk_cell BK9.out 3).trans rfl; have d4 := (blk_cell BK9.out 4).trans rfl; have d5 := (blk_cell BK9.out 5).trans rfl; clear ho hb hg))
          have HC9r := Aside0.mk (show Kd.C k104 w9 A5 (chS ch).length (chS ch) from (Kd.R_reads' HC9.out).2.2)
          have HV9 := Aside0.mk (tegularef47_value.calls (ch.length + 1) A5 c5 (chS ch) e3 (valM ch e3) w9 HC9r.out (by rw [chS_len]; omega) HVF.out)
          rw [chS_len] at HV9
          (with_reducible refine HV9.out.mono ?_)
          rintro e wv ⟨rfl, hD⟩
          have hbv := hD.below
          have HLv := Aside0.mk (Kd.R_below HL9.out hbv)
          have HOv := Aside0.mk (Kd.R_below HO9.out hbv)
          have HCv := Aside0.mk (Kd.R_below HC9.out hbv)
          have HBv := Aside0.mk (below_step HB9.out hbv)
          clear hD hbv d0 d1 d2 d3 d4 d5
          go_wp2_with ((with_reducible refine gate_ (.store 3 (.tmp 159) (.tmp 157)) rfl ?_); refine at_mop (w0 := w) rfl rfl 3 (.tmp 159) (.tmp 157) rfl j 8 (by omega) (.int .i64 (valM ch e3)) ⟨⟨e0, e1, false, e3, e4, false⟩, true, dn, valM ch e3, (ch.length : Int)⟩ rfl rfl rfl (by kernel_rfl) rfl (by rw [mAt_same _ _ _ hjl]; rfl) HOv.out hjl HBv.out ?_; intro w10 ho hb hg; rw [List.set_set] at ho; have HO9 := Aside0.mk ho; have HB9 := Aside0.mk hb; have HL9 := Aside0.mk (Kd.R_over HLv.out HOv.out (by decide) hg); have HC9 := Aside0.mk (Kd.R_over HCv.out HOv.out (by decide) hg); clear ho hb hg)
          refine ⟨StoInv.mk ⟨x + 1, by omega, by first | rfl | simp, by rw [HN2.out], by rw [HN2.out], by rw [HN2.out]; exact HL9, by rw [HN2.out]; exact HO9, by rw [HN2.out]; exact HC9, HB9⟩, ?_⟩
          simp [StoMu, intOf]; omega
end Go.Proofs.Ytidghmgaaenihaa.Q
