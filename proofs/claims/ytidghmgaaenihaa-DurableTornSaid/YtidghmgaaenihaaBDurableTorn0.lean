/- Texts of this claim, packed: Q97, Q79, Q67, RFind, REvent, RValid, PValid, Q33, ROps, Q56, Q93, RSrc, RSeen, RSurvives, RStale, RTrace, RSurv, PSurv, RCheck, PCheck, PApp, PTorn, Q26, PTorn2, PLaw6, HOpen2. -/
import Derived.Test.YtidghmgaaenihaaQ0
import Derived.Test.YtidghmgaaenihaaHIndex
import Derived.Test.YtidghmgaaenihaaHPlain
import Derived.Test.YtidghmgaaenihaaHMap
import Derived.Test.YtidghmgaaenihaaHParse
import Derived.Test.YtidghmgaaenihaaHSurv
import Derived.Test.YtidghmgaaenihaaHClos
import Derived.Test.YtidghmgaaenihaaHCert
import Derived.Test.YtidghmgaaenihaaHCheck
import Derived.Test.YtidghmgaaenihaaQ22
import Derived.Test.YtidghmgaaenihaaQ23
import Derived.Test.YtidghmgaaenihaaQe33
import Derived.Test.YtidghmgaaenihaaQ19
import Derived.Test.YtidghmgaaenihaaHTrace
import Derived.Deep.Slices
import Derived.Deep.Fields
import Derived.ChangeSame
import Derived.ChangeSlices
import Derived.WideKeyArr2
/-! part Q97 -/
namespace Go.Proofs.Ytidghmgaaenihaa.Q
open Go.RowKit Go.Proofs.YtidghmgaaenihaaW.PrintWords Go.Proofs.YtidghmgaaenihaaW.PrintLast Go.Proofs.YtidghmgaaenihaaW.PrintMore
attribute [local go_sem] max2_int min2_int max_two min_two max_three min_three max_four min_four
set_option linter.unusedVariables false
set_option linter.unusedSimpArgs false

/-! ### tegularef45_find: function 97 -/
end Go.Proofs.Ytidghmgaaenihaa.Q

/-! part Q79 -/
namespace Go.Proofs.Ytidghmgaaenihaa.Q
open Go.RowKit Go.Proofs.YtidghmgaaenihaaW.PrintWords Go.Proofs.YtidghmgaaenihaaW.PrintLast Go.Proofs.YtidghmgaaenihaaW.PrintMore
attribute [local go_sem] max2_int min2_int max_two min_two max_three min_three max_four min_four
set_option linter.unusedVariables false
set_option linter.unusedSimpArgs false

/-! ### tegularef45_cut: function 79 -/
end Go.Proofs.Ytidghmgaaenihaa.Q

/-! part Q67 -/
namespace Go.Proofs.Ytidghmgaaenihaa.Q
open Go.RowKit Go.Proofs.YtidghmgaaenihaaW.PrintWords Go.Proofs.YtidghmgaaenihaaW.PrintLast Go.Proofs.YtidghmgaaenihaaW.PrintMore
attribute [local go_sem] max2_int min2_int max_two min_two max_three min_three max_four min_four
set_option linter.unusedVariables false
set_option linter.unusedSimpArgs false

/-! ### tegularef45_call: function 67 -/
end Go.Proofs.Ytidghmgaaenihaa.Q

/-! part RFind -/
namespace Go.Proofs.Ytidghmgaaenihaa.Q
open Go.RowKit Go.Proofs.YtidghmgaaenihaaW.PrintWords Go.Proofs.YtidghmgaaenihaaW.PrintLast Go.Proofs.YtidghmgaaenihaaW.PrintMore
set_option linter.unusedVariables false
set_option linter.unusedSimpArgs false

def isEv (kind op : Int) (e : S39) : Bool := e.f0 == kind && e.f1 == op
def findI (l : List S39) (kind op : Int) (n : Nat) : Int := match (l.take n).findIdx? (isEv kind op) with | some i => i | none => -1
def cutR (l : List S39) (a b : Nat) : Bool := ((l.take b).drop a).any (fun e => e.f0 == 3)
def callR (e : S39) : Bool := !(decide (e.f1 < 0) || decide (e.f3 < 0) || decide (e.f4 < 0)) && (e.f2 || (e.f4 == 0 && (!e.f5 || e.f3 == 0)))

theorem wrap_succ {x : Int} (h0 : 0 ≤ x) (h1 : x < 9223372036854775807) : wrap64 (x + 1) = x + 1 := by
  unfold wrap64; omega
theorem rd39_at {l : List S39} {x : Int} (h0 : 0 ≤ x) (h : x < l.length) : rd_T39 l x = l[x.toNat]'(by omega) := by
  simp [rd_T39, List.getD_eq_getElem?_getD, show x.toNat < l.length by omega]
end Go.Proofs.Ytidghmgaaenihaa.Q

/-! part REvent -/
namespace Go.Proofs.Ytidghmgaaenihaa.Q
open Go.RowKit Go.Proofs.YtidghmgaaenihaaW.PrintWords Go.Proofs.YtidghmgaaenihaaW.PrintLast Go.Proofs.YtidghmgaaenihaaW.PrintMore
set_option linter.unusedVariables false
set_option linter.unusedSimpArgs false

def ansR (e c : S39) : Bool := e.f2 == c.f2 && (e.f5 == c.f5 && (e.f3 == c.f3 && ((!c.f2 && !c.f5) || e.f4 == c.f4)))
def eventE (l : List S39) (i : Nat) (e : S39) : Bool :=
  if e.f0 = 3 then isCut e
  else if e.f0 = 1 then callR e && decide (findI l 1 e.f1 i < 0)
  else if e.f0 = 2 then
    (if findI l 1 e.f1 i < 0 then false else if 0 ≤ findI l 2 e.f1 i then false
     else if cutR l (findI l 1 e.f1 i).toNat i = true then false else ansR e (rd_T39 l (findI l 1 e.f1 i)))
  else false
def eventR (l : List S39) (i : Nat) : Bool := eventE l i (rd_T39 l i)

attribute [local go_sem high] eqA39
end Go.Proofs.Ytidghmgaaenihaa.Q

/-! part RValid -/
namespace Go.Proofs.Ytidghmgaaenihaa.Q
open Go.RowKit Go.Proofs.YtidghmgaaenihaaW.PrintWords Go.Proofs.YtidghmgaaenihaaW.PrintLast Go.Proofs.YtidghmgaaenihaaW.PrintMore
set_option linter.unusedVariables false
set_option linter.unusedSimpArgs false

end Go.Proofs.Ytidghmgaaenihaa.Q

/-! part PValid -/
namespace Go.Proofs.Ytidghmgaaenihaa.Q
open Go.RowKit
set_option linter.unusedVariables false
set_option linter.unusedSimpArgs false

theorem callR_eq (e : S39) : callR e = properB e := by
  unfold callR properB
  by_cases h1 : e.f1 < 0
  · simp [h1]
  · by_cases h3 : e.f3 < 0
    · simp [h1, h3]
    · by_cases h4 : e.f4 < 0
      · simp [h1, h3, h4]
      · cases h2 : e.f2 <;> cases h5 : e.f5 <;> simp [h1, h3, h4]
        all_goals (cases h40 : (e.f4 == 0) <;> cases h30 : (e.f3 == 0) <;> simp_all)
theorem ansR_eq {e c : S39} (h : e.f1 = c.f1) : ansR e c = answersB e c := by
  unfold ansR answersB
  rw [h, beq_self_eq_true]
  cases h2 : (e.f2 == c.f2) <;> cases h5 : (e.f5 == c.f5) <;> cases h3 : (e.f3 == c.f3) <;> cases h4 : (e.f4 == c.f4) <;> simp_all
theorem findI_step (l : List S39) (kind op : Int) (k : Nat) (hk : k < l.length) : findI l kind op (k + 1) = if 0 ≤ findI l kind op k then findI l kind op k else if isEv kind op (rd_T39 l k) = true then (k : Int) else -1 := by
  have hr : rd_T39 l (k : Int) = l[k] := by rw [rd39_at (by omega) (by omega)]; simp
  unfold findI
  rw [List.take_succ_eq_append_getElem hk, List.findIdx?_append, hr]
  cases h : (l.take k).findIdx? (isEv kind op) with
  | some i => simp
  | none =>
    by_cases hm : isEv kind op l[k] = true
    · simp [List.findIdx?_cons, hm, Nat.min_eq_left (Nat.le_of_lt hk)]
    · simp [List.findIdx?_cons, hm]
theorem findI_zero (l : List S39) (kind op : Int) : findI l kind op 0 = -1 := by simp [findI]
theorem cutR_eq (l : List S39) (a b : Nat) (h : a ≤ b) : cutR l a b = decide (cutsN (l.take a) < cutsN (l.take b)) := by
  have e : l.take b = l.take a ++ (l.take b).drop a := by
    conv => lhs; rw [← List.take_append_drop a (l.take b)]
    rw [List.take_take, Nat.min_eq_left h]
  have e2 : cutsN (l.take b) = cutsN (l.take a) + (((l.take b).drop a).filter (fun e => e.f0 == 3)).length := by
    conv => lhs; rw [e]
    unfold cutsN; rw [List.filter_append, List.length_append]
  unfold cutR
  rw [e2]
  cases hc : ((l.take b).drop a).any (fun e => e.f0 == 3) with
  | true =>
    obtain ⟨x, hx, hp⟩ := List.any_eq_true.1 hc
    have : 0 < (((l.take b).drop a).filter (fun e => e.f0 == 3)).length := List.length_pos_of_mem (List.mem_filter.2 ⟨hx, hp⟩)
    exact (decide_eq_true (by omega)).symm
  | false =>
    have : ((l.take b).drop a).filter (fun e => e.f0 == 3) = [] := by
      rw [List.filter_eq_nil_iff]; intro x hx; have := List.any_eq_false.1 hc x hx; simpa using this
    rw [this]; simp

structure TInv (l : List S39) (k : Nat) (s : List S60 × Int) : Prop where
  era : s.2 = cutsN (l.take k)
  ops : ∀ o ∈ s.1, ∃ i : Nat, i < k ∧ o.f6 = i ∧ (rd_T39 l i).f1 = o.f0 ∧ findI l 1 o.f0 k = i ∧ o.f5 = cutsN (l.take i) ∧ (0 ≤ o.f7 ↔ 0 ≤ findI l 2 o.f0 k)
  all : ∀ id, 0 ≤ findI l 1 id k → ∃ o ∈ s.1, o.f0 = id
  fin : ∀ id, 0 ≤ findI l 2 id k → ∃ o ∈ s.1, o.f0 = id
  seq : ∀ o ∈ s.1, o.f7 = -1 ∨ (o.f6 < o.f7 ∧ o.f7 < k)
  cal : ∀ o ∈ s.1, o.f1 = (rd_T39 l o.f6).f3 ∧ o.f3 = (rd_T39 l o.f6).f2 ∧ o.f4 = (rd_T39 l o.f6).f5 ∧ (o.f3 = true → o.f2 = (rd_T39 l o.f6).f4 ∧ 0 ≤ o.f2)

theorem TInv.zero (l : List S39) : TInv l 0 ([], 0) := ⟨by simp [cutsN], by simp, by simp [findI_zero], by simp [findI_zero], by simp, by simp⟩

theorem event_step (l : List S39) (k : Nat) (hk : k < l.length) {s : List S60 × Int} (I : TInv l k s) : eventR l k = (pstep l k (rd_T39 l k) s).isSome := by
  unfold eventR
  generalize rd_T39 l k = e
  unfold eventE pstep
  by_cases h3 : e.f0 = 3
  · rw [if_pos h3, if_neg (by omega), if_neg (by omega), if_pos h3]
    cases isCut e <;> simp
  · rw [if_neg h3]
    by_cases h1 : e.f0 = 1
    · rw [if_pos h1, if_pos h1, callR_eq]
      cases ha : at? s.1 e.f1 with
      | none =>
        have : ¬ 0 ≤ findI l 1 e.f1 k := fun h => by
          obtain ⟨o, ho, e0⟩ := I.all _ h
          exact at?_none ha o ho e0
        rw [decide_eq_true (by omega), Bool.and_true]
        cases properB e <;> simp
      | some j =>
        obtain ⟨j1, j2, j3⟩ := at?_some ha
        obtain ⟨i, _, _, _, hf, _⟩ := I.ops _ j3
        rw [j2] at hf
        rw [decide_eq_false (by omega), Bool.and_false]; rfl
    · rw [if_neg h1, if_neg h1]
      by_cases h2 : e.f0 = 2
      · rw [if_pos h2, if_pos h2]
        cases ha : at? s.1 e.f1 with
        | none =>
          have : ¬ 0 ≤ findI l 1 e.f1 k := fun h => by
            obtain ⟨o, ho, e0⟩ := I.all _ h
            exact at?_none ha o ho e0
          rw [if_pos (by omega)]; rfl
        | some j =>
          obtain ⟨j1, j2, j3⟩ := at?_some ha
          obtain ⟨i, hi, h6, hc, hf, h5, h7⟩ := I.ops _ j3
          rw [j2] at hf hc h7
          rw [hf, if_neg (by omega)]
          simp only
          by_cases hd : 0 ≤ (opAt s.1 j).f7
          · rw [if_pos (h7.1 hd), if_pos hd]; rfl
          · rw [if_neg (fun h => hd (h7.2 h)), if_neg hd, Int.toNat_natCast, cutR_eq l i k (by omega), I.era, h5]
            have hle : cutsN (l.take i) ≤ cutsN (l.take k) := by
              have e0 : l.take i = (l.take k).take i := by rw [List.take_take, Nat.min_eq_left (by omega)]
              rw [e0]
              unfold cutsN
              exact ((List.take_sublist _ _).filter _).length_le
            by_cases hcut : cutsN (l.take i) = cutsN (l.take k)
            · rw [if_neg (by simp; omega), if_pos (by omega), h6, ansR_eq hc.symm]
              cases answersB e (rd_T39 l i) <;> simp
            · rw [if_pos (by simp; omega), if_neg (by omega)]; rfl
      · rw [if_neg h2, if_neg h2, if_neg h3]; rfl

theorem cutsN_succ {l : List S39} {k : Nat} (hk : k < l.length) : cutsN (l.take (k + 1)) = cutsN (l.take k) + if (rd_T39 l k).f0 = 3 then 1 else 0 := by
  have hr : rd_T39 l (k : Int) = l[k] := by rw [rd39_at (by omega) (by omega)]; simp
  rw [List.take_succ_eq_append_getElem hk, hr]
  unfold cutsN
  rw [List.filter_append, List.length_append]
  by_cases hc : l[k].f0 = 3 <;> simp [List.filter_cons, hc]
theorem findI_ge (l : List S39) (kind op : Int) (k : Nat) : -1 ≤ findI l kind op k := by
  unfold findI
  split
  · omega
  · omega
theorem findI_keep {l : List S39} {kind op : Int} {k : Nat} (hk : k < l.length) {i : Nat} (h : findI l kind op k = i) : findI l kind op (k + 1) = i := by
  rw [findI_step l kind op k hk, h, if_pos (by omega)]
theorem findI_same {l : List S39} {kind op : Int} {k : Nat} (hk : k < l.length) (h : isEv kind op (rd_T39 l k) = false) : findI l kind op (k + 1) = findI l kind op k := by
  rw [findI_step l kind op k hk, h]
  have := findI_ge l kind op k
  split
  · rfl
  · rw [if_neg (by decide)]; omega
theorem mem_setAt {ops : List S60} (hnd : ops.Pairwise (fun a b => a.f0 ≠ b.f0)) {j : Nat} (hj : j < ops.length) {x o : S60} (h : o ∈ ops.set j x) : o = x ∨ (o ∈ ops ∧ o.f0 ≠ (opAt ops j).f0) := by
  obtain ⟨i, hi, rfl⟩ := List.mem_iff_getElem.1 h
  rw [List.length_set] at hi
  rw [List.getElem_set]
  split
  · exact .inl rfl
  · rename_i hne
    refine .inr ⟨List.getElem_mem _, ?_⟩
    rw [opAt_get hj]
    rcases Nat.lt_or_gt_of_ne hne with hlt | hgt
    · exact fun e => List.pairwise_iff_getElem.1 hnd j i hj hi hlt e.symm
    · exact List.pairwise_iff_getElem.1 hnd i j hi hj hgt
theorem set_hit {ops : List S60} {j : Nat} (hj : j < ops.length) (x : S60) : x ∈ ops.set j x := List.mem_iff_getElem.2 ⟨j, by simpa using hj, by simp⟩
theorem set_id {ops : List S60} {j : Nat} (hj : j < ops.length) {x : S60} (hx : x.f0 = (opAt ops j).f0) {o : S60} (ho : o ∈ ops) : ∃ o' ∈ ops.set j x, o'.f0 = o.f0 := by
  obtain ⟨i, hi, rfl⟩ := List.mem_iff_getElem.1 ho
  by_cases hij : i = j
  · subst hij
    exact ⟨x, set_hit hi x, by rw [hx, opAt_get hi]⟩
  · exact ⟨ops[i], List.mem_iff_getElem.2 ⟨i, by simpa using hi, by rw [List.getElem_set]; rw [if_neg (fun h => hij h.symm)]⟩, rfl⟩
theorem tinv_step (l : List S39) (k : Nat) (hk : k < l.length) {s s' : List S60 × Int} (h : pstep l k (rd_T39 l k) s = some s') (I : TInv l k s) (P : PInv k s) : TInv l (k + 1) s' := by
  obtain ⟨ops, era⟩ := s
  obtain ⟨i1, i2, i3, i6, i4, i5⟩ := I
  have hnd := P.nodup
  simp only at i1 i2 i3 i4 i5 i6 hnd
  obtain ⟨e, he⟩ : ∃ e, rd_T39 l (k : Int) = e := ⟨_, rfl⟩
  have hcu := cutsN_succ hk
  have hkeep : ∀ kind op, (e.f0 ≠ kind ∨ e.f1 ≠ op) → findI l kind op (k + 1) = findI l kind op k := fun kind op hne => findI_same hk (by
    rw [he]; unfold isEv; rcases hne with hne | hne <;> simp [hne])
  have hhit : ∀ kind op, e.f0 = kind → e.f1 = op → 0 ≤ findI l kind op (k + 1) := fun kind op h0 h1 => by
    rw [findI_step l kind op k hk, he]
    split
    · assumption
    · rw [if_pos (by simp [isEv, h0, h1])]; omega
  rw [he] at h hcu
  unfold pstep at h
  split at h
  · rename_i h1
    split at h
    · cases h
    · rename_i hn
      split at h
      · rename_i hp
        cases h
        have hf1 : findI l 1 e.f1 k = -1 := by
          have := findI_ge l 1 e.f1 k
          by_cases hq : 0 ≤ findI l 1 e.f1 k
          · obtain ⟨o, ho, e0⟩ := i3 _ hq
            exact absurd e0 (at?_none hn o ho)
          · omega
        have hf1' : findI l 1 e.f1 (k + 1) = (k : Int) := by rw [findI_step l 1 e.f1 k hk, hf1, if_neg (by decide), he, if_pos (by simp [isEv, h1])]
        refine ⟨by rw [hcu, if_neg (by omega)]; exact i1, ?_, ?_, ?_, ?_, ?_⟩
        · intro o ho
          simp only [List.mem_append, List.mem_singleton] at ho
          rcases ho with ho | rfl
          · obtain ⟨i, a1, a2, a3, a4, a5, a6⟩ := i2 o ho
            exact ⟨i, by omega, a2, a3, findI_keep hk a4, a5, by rw [hkeep 2 _ (.inl (by omega))]; exact a6⟩
          · refine ⟨k, by omega, rfl, by rw [he]; rfl, hf1', i1, ?_⟩
            simp only [newOp]
            rw [hkeep 2 _ (.inl (by omega))]
            refine ⟨fun h => absurd h (by decide), fun h => ?_⟩
            obtain ⟨o, ho, e0⟩ := i6 _ h
            exact absurd e0 (at?_none hn o ho)
        · intro id hid
          by_cases hq : id = e.f1
          · exact ⟨newOp e era k, by simp, hq.symm ▸ rfl⟩
          · rw [hkeep 1 id (.inr (fun h => hq h.symm))] at hid
            obtain ⟨o, ho, e0⟩ := i3 id hid
            exact ⟨o, by simp [ho], e0⟩
        · intro id hid
          rw [hkeep 2 id (.inl (by omega))] at hid
          obtain ⟨o, ho, e0⟩ := i6 id hid
          exact ⟨o, by simp [ho], e0⟩
        · intro o ho
          simp only [List.mem_append, List.mem_singleton] at ho
          rcases ho with ho | rfl
          · have := i4 o ho; omega
          · exact .inl rfl
        · intro o ho
          simp only [List.mem_append, List.mem_singleton] at ho
          rcases ho with ho | rfl
          · exact i5 o ho
          · simp only [newOp, he]
            refine ⟨trivial, trivial, trivial, fun _ => ⟨trivial, ?_⟩⟩
            unfold properB at hp
            split at hp
            · cases hp
            · split at hp
              · cases hp
              · split at hp
                · cases hp
                · omega
      · cases h
  · rename_i h1
    split at h
    · rename_i h2
      split at h
      · cases h
      · rename_i j hj
        obtain ⟨j1, j2, j3⟩ := at?_some hj
        split at h
        · cases h
        · rename_i hnd7
          split at h
          · rename_i hera
            split at h
            · rename_i hans
              cases h
              obtain ⟨i, a1, a2, a3, a4, a5, a6⟩ := i2 _ j3
              have hke : ∀ o : S60, o.f0 ≠ (opAt ops j).f0 → findI l 2 o.f0 (k + 1) = findI l 2 o.f0 k := fun o hne => hkeep 2 _ (.inr (fun h => hne (by rw [← h, j2])))
              refine ⟨by rw [hcu, if_neg (by omega)]; exact i1, ?_, ?_, ?_, ?_, ?_⟩
              · intro o ho
                rcases mem_setAt hnd j1 ho with rfl | ⟨ho, hne⟩
                · refine ⟨i, by omega, a2, a3, findI_keep hk a4, a5, ?_⟩
                  simp only [doneOp]
                  refine ⟨fun _ => ?_, fun _ => by omega⟩
                  rw [j2]
                  exact hhit 2 _ h2 rfl
                · obtain ⟨i', b1, b2, b3, b4, b5, b6⟩ := i2 o ho
                  exact ⟨i', by omega, b2, b3, findI_keep hk b4, b5, by rw [hke o hne]; exact b6⟩
              · intro id hid
                rw [hkeep 1 id (.inl (by omega))] at hid
                obtain ⟨o, ho, rfl⟩ := i3 id hid
                exact set_id j1 (x := doneOp (opAt ops j) e k) rfl ho
              · intro id hid
                by_cases hq : id = e.f1
                · exact ⟨_, set_hit j1 _, by rw [hq]; exact j2⟩
                · rw [hkeep 2 id (.inr (fun h => hq h.symm))] at hid
                  obtain ⟨o, ho, rfl⟩ := i6 id hid
                  exact set_id j1 (x := doneOp (opAt ops j) e k) rfl ho
              · intro o ho
                rcases mem_setAt hnd j1 ho with rfl | ⟨ho, hne⟩
                · have a2' : (opAt ops j).f6 = i := a2
                  simp only [doneOp]; omega
                · have := i4 o ho; omega
              · intro o ho
                rcases mem_setAt hnd j1 ho with rfl | ⟨ho, hne⟩
                · obtain ⟨c1, c2, c3, c4⟩ := i5 _ j3
                  simp only [doneOp]
                  refine ⟨c1, c2, c3, fun hw => ?_⟩
                  obtain ⟨c5, c6⟩ := c4 hw
                  unfold answersB at hans
                  rw [← c2, hw, ← c5] at hans
                  simp only [Bool.and_eq_true, beq_iff_eq, Bool.or_eq_true] at hans
                  obtain ⟨⟨⟨⟨_, d2⟩, _⟩, d4⟩, _⟩ := hans
                  rw [d2] at d4
                  simp at d4
                  exact ⟨by rw [d4, c5], by rw [d4]; exact c6⟩
                · exact i5 o ho
            · cases h
          · cases h
    · rename_i h2
      split at h
      · rename_i h3
        split at h
        · cases h
          refine ⟨by rw [hcu, if_pos h3]; simp only; omega, ?_, ?_, ?_, ?_, i5⟩
          · intro o ho
            obtain ⟨i, a1, a2, a3, a4, a5, a6⟩ := i2 o ho
            exact ⟨i, by omega, a2, a3, findI_keep hk a4, a5, by rw [hkeep 2 _ (.inl (by omega))]; exact a6⟩
          · intro id hid
            rw [hkeep 1 id (.inl (by omega))] at hid
            exact i3 id hid
          · intro id hid
            rw [hkeep 2 id (.inl (by omega))] at hid
            exact i6 id hid
          · intro o ho
            have := i4 o ho; omega
        · cases h
      · cases h
theorem tinv (l : List S39) : ∀ k, k ≤ l.length → ∀ s, ptake l k = some s → TInv l k s ∧ (∀ j, j < k → eventR l j = true)
  | 0, _, s, h => by
    cases h
    exact ⟨TInv.zero l, fun j hj => absurd hj (by omega)⟩
  | k + 1, hk, s', h => by
    rw [ptake] at h
    obtain ⟨s, hs, hp⟩ := Option.bind_eq_some_iff.1 h
    obtain ⟨I, hE⟩ := tinv l k (by omega) s hs
    refine ⟨tinv_step l k hk hp I (ptake_inv l k hs), fun j hj => ?_⟩
    rcases Nat.lt_succ_iff_lt_or_eq.1 hj with hj | rfl
    · exact hE j hj
    · rw [event_step l j hk I, hp]; rfl
theorem parse_tinv {l : List S39} {s : List S60 × Int} (h : parseP l = some s) : TInv l l.length s := (tinv l l.length (Nat.le_refl _) s h).1
end Go.Proofs.Ytidghmgaaenihaa.Q

/-! part Q33 -/
namespace Go.Proofs.Ytidghmgaaenihaa.Q
open Go.RowKit Go.Proofs.YtidghmgaaenihaaW.PrintWords Go.Proofs.YtidghmgaaenihaaW.PrintLast Go.Proofs.YtidghmgaaenihaaW.PrintMore
attribute [local go_sem] max2_int min2_int max_two min_two max_three min_three max_four min_four
set_option linter.unusedVariables false
set_option linter.unusedSimpArgs false

/-! ### tegularef45_Ops: function 33 -/
end Go.Proofs.Ytidghmgaaenihaa.Q

/-! part ROps -/
namespace Go.Proofs.Ytidghmgaaenihaa.Q
open Go.RowKit Go.Proofs.YtidghmgaaenihaaW.PrintWords Go.Proofs.YtidghmgaaenihaaW.PrintLast Go.Proofs.YtidghmgaaenihaaW.PrintMore
set_option linter.unusedVariables false
set_option linter.unusedSimpArgs false

end Go.Proofs.Ytidghmgaaenihaa.Q

/-! part Q56 -/
namespace Go.Proofs.Ytidghmgaaenihaa.Q
open Go.RowKit Go.Proofs.YtidghmgaaenihaaW.PrintWords Go.Proofs.YtidghmgaaenihaaW.PrintLast Go.Proofs.YtidghmgaaenihaaW.PrintMore
attribute [local go_sem] max2_int min2_int max_two min_two max_three min_three max_four min_four
set_option linter.unusedVariables false
set_option linter.unusedSimpArgs false

/-! ### tegularef47_read: function 56 -/
end Go.Proofs.Ytidghmgaaenihaa.Q

/-! part Q93 -/
namespace Go.Proofs.Ytidghmgaaenihaa.Q
open Go.RowKit Go.Proofs.YtidghmgaaenihaaW.PrintWords Go.Proofs.YtidghmgaaenihaaW.PrintLast Go.Proofs.YtidghmgaaenihaaW.PrintMore
attribute [local go_sem] max2_int min2_int max_two min_two max_three min_three max_four min_four
set_option linter.unusedVariables false
set_option linter.unusedSimpArgs false

/-! ### tegularef47_precedes: function 93 -/
end Go.Proofs.Ytidghmgaaenihaa.Q

/-! part RSrc -/
namespace Go.Proofs.Ytidghmgaaenihaa.Q
open Go.RowKit Go.Proofs.YtidghmgaaenihaaW.PrintWords Go.Proofs.YtidghmgaaenihaaW.PrintLast Go.Proofs.YtidghmgaaenihaaW.PrintMore
set_option linter.unusedVariables false
set_option linter.unusedSimpArgs false

def srcI (ops : List S60) (r v : Int) : Int := idxOf ops (isSrc r v)
end Go.Proofs.Ytidghmgaaenihaa.Q

/-! part RSeen -/
namespace Go.Proofs.Ytidghmgaaenihaa.Q
open Go.RowKit Go.Proofs.YtidghmgaaenihaaW.PrintWords Go.Proofs.YtidghmgaaenihaaW.PrintLast Go.Proofs.YtidghmgaaenihaaW.PrintMore
set_option linter.unusedVariables false
set_option linter.unusedSimpArgs false

def seenB (ops : List S60) (v : Nat) (o : S60) : Bool := ansB o && (decide ((opAt ops v).f5 < o.f5) && (srcI ops o.f1 o.f2 == (v : Int)))
def seenR (ops : List S60) (v : Nat) : Bool := ops.any (seenB ops v)
end Go.Proofs.Ytidghmgaaenihaa.Q

/-! part RSurvives -/
namespace Go.Proofs.Ytidghmgaaenihaa.Q
open Go.RowKit Go.Proofs.YtidghmgaaenihaaW.PrintWords Go.Proofs.YtidghmgaaenihaaW.PrintLast Go.Proofs.YtidghmgaaenihaaW.PrintMore
set_option linter.unusedVariables false
set_option linter.unusedSimpArgs false

def survAt (ops : List S60) (w i : Nat) : Bool := ((opAt ops i).f5 == (opAt ops w).f5) && (precB (opAt ops w) (opAt ops i) && (((opAt ops i).f4 && decide (0 ≤ (opAt ops i).f7)) || ((opAt ops i).f3 && seenR ops i)))
def survR (ops : List S60) (w : Nat) : Bool := if (opAt ops w).f7 < 0 then false else if (opAt ops w).f4 = true then true else if seenR ops w = true then true else (List.range ops.length).any (survAt ops w)
theorem range_no {n : Nat} {p : Nat → Bool} (h : ∀ i, i < n → p i = false) : (List.range n).any p = false := by
  rw [List.any_eq_false]; intro x hx; rw [h x (List.mem_range.1 hx)]; decide
theorem range_yes {n i : Nat} {p : Nat → Bool} (h : i < n) (hp : p i = true) : (List.range n).any p = true := by
  rw [List.any_eq_true]; exact ⟨i, List.mem_range.2 h, hp⟩
def finalR (ops : List S60) (w : Nat) (r : S60) : Bool := precB (opAt ops w) r && ((opAt ops w).f5 == r.f5 || survR ops w)
end Go.Proofs.Ytidghmgaaenihaa.Q

/-! part RStale -/
namespace Go.Proofs.Ytidghmgaaenihaa.Q
open Go.RowKit Go.Proofs.YtidghmgaaenihaaW.PrintWords Go.Proofs.YtidghmgaaenihaaW.PrintLast Go.Proofs.YtidghmgaaenihaaW.PrintMore
set_option linter.unusedVariables false
set_option linter.unusedSimpArgs false

def hideR (ops : List S60) (s : Int) (o : S60) : Bool := decide (s < 0) || (precB (opAt ops s.toNat) o || decide ((opAt ops s.toNat).f5 < o.f5))
def staleAt (ops : List S60) (r : S60) (s : Int) (i : Nat) : Bool := (opAt ops i).f3 && ((opAt ops i).f1 == r.f1 && (!((i : Int) == s) && (finalR ops i r && hideR ops s (opAt ops i))))
def firstI (n : Nat) (p : Nat → Bool) : Int := match (List.range n).find? p with | some i => i | none => -1
theorem firstI_hit {n i : Nat} {p : Nat → Bool} (h : i < n) (hn : ∀ j, j < i → p j = false) (hp : p i = true) : firstI n p = i := by
  have : (List.range n).find? p = some i := by
    rw [List.find?_range_eq_some]
    exact ⟨hp, List.mem_range.2 h, fun j hj => by rw [hn j hj]; rfl⟩
  simp only [firstI, this]
theorem firstI_miss {n : Nat} {p : Nat → Bool} (hn : ∀ j, j < n → p j = false) : firstI n p = -1 := by
  have : (List.range n).find? p = none := by
    rw [List.find?_eq_none]; intro j hj; rw [hn j (List.mem_range.1 hj)]; decide
  simp only [firstI, this]

end Go.Proofs.Ytidghmgaaenihaa.Q

/-! part RTrace -/
namespace Go.Proofs.Ytidghmgaaenihaa.Q
open Go.RowKit Go.Proofs.YtidghmgaaenihaaW.PrintWords Go.Proofs.YtidghmgaaenihaaW.PrintLast Go.Proofs.YtidghmgaaenihaaW.PrintMore
set_option linter.unusedVariables false
set_option linter.unusedSimpArgs false

def twin (ops : List S60) (i k : Nat) : Bool := (opAt ops k).f3 && ((opAt ops k).f1 == (opAt ops i).f1 && (opAt ops k).f2 == (opAt ops i).f2)
def badAt (ops : List S60) (i : Nat) : Bool := (opAt ops i).f3 && ((opAt ops i).f2 == 0 || (List.range i).any (twin ops i))
def traceQ (ops : List S60) (err : Int) : Bool := !(List.range ops.length).any (badAt ops) && err == 0
def traceR (l : List S39) : Bool := traceQ (opsP l).1 (opsP l).2
theorem trace_ok {ops : List S60} {err : Int} (h : ∀ i, i < ops.length → badAt ops i = false) : traceQ ops err = (err == 0) := by rw [traceQ, range_no h]; rfl

end Go.Proofs.Ytidghmgaaenihaa.Q

/-! part RSurv -/
namespace Go.Proofs.Ytidghmgaaenihaa.Q
open Go.RowKit Go.Proofs.YtidghmgaaenihaaW.PrintWords Go.Proofs.YtidghmgaaenihaaW.PrintLast Go.Proofs.YtidghmgaaenihaaW.PrintMore
set_option linter.unusedVariables false
set_option linter.unusedSimpArgs false

theorem range_next {β : Type} (f : Nat → Option β) (x : Nat) : (List.range (x + 1)).filterMap f = (List.range x).filterMap f ++ (match f x with | some y => [y] | none => []) := by
  rw [List.range_succ, List.filterMap_append]
  cases hf : f x <;> simp [hf]
end Go.Proofs.Ytidghmgaaenihaa.Q

/-! part PSurv -/
namespace Go.Proofs.Ytidghmgaaenihaa.Q
open Go.RowKit
set_option linter.unusedVariables false
set_option linter.unusedSimpArgs false

theorem opAt_mem {ops : List S60} {i : Nat} (h : i < ops.length) : opAt ops i ∈ ops := by rw [opAt_get h]; exact List.getElem_mem _
theorem mem_opAt {ops : List S60} {o : S60} (h : o ∈ ops) : ∃ i, i < ops.length ∧ o = opAt ops i := by
  obtain ⟨i, hi, rfl⟩ := List.mem_iff_getElem.1 h
  exact ⟨i, hi, (opAt_get hi).symm⟩
theorem src_none {ops : List S60} {k : Nat} (hk : k ≤ ops.length) (r v : Int) : (srcIx (ops.take k) r v).isNone = !(List.range k).any (fun i => isSrc r v (opAt ops i)) := by
  cases h : srcIx (ops.take k) r v with
  | none =>
    have := List.findIdx?_eq_none_iff.1 h
    rw [range_no (fun i hi => ?_)]
    · rfl
    · refine this _ (List.mem_iff_getElem.2 ⟨i, by rw [List.length_take]; omega, ?_⟩)
      rw [List.getElem_take, opAt_get (by omega)]
  | some i =>
    obtain ⟨h1, h2, _⟩ := List.findIdx?_eq_some_iff_getElem.1 h
    rw [List.length_take] at h1
    rw [List.getElem_take, ← opAt_get (by omega)] at h2
    rw [range_yes (show i < k by omega) h2]
    rfl
theorem okAt_bad {l : List S39} {s : List S60 × Int} (hs : parseP l = some s) {k : Nat} (hk : k < s.1.length) : okAt s.1 k = !badAt s.1 k := by
  obtain ⟨c1, c2, c3, c4⟩ := (parse_tinv hs).cal _ (opAt_mem hk)
  unfold okAt badAt
  rw [src_none (by omega)]
  cases h3 : (opAt s.1 k).f3 with
  | false => rfl
  | true =>
    obtain ⟨c5, c6⟩ := c4 h3
    have e : (fun i => isSrc (opAt s.1 k).f1 (opAt s.1 k).f2 (opAt s.1 i)) = twin s.1 k := rfl
    rw [e]
    have e2 : decide (1 ≤ (opAt s.1 k).f2) = !((opAt s.1 k).f2 == 0) := by
      by_cases h0 : (opAt s.1 k).f2 = 0
      · simp [h0]
      · rw [decide_eq_true (by omega)]; simp [h0]
    rw [e2]
    cases ((opAt s.1 k).f2 == 0) <;> cases (List.range k).any (twin s.1 k) <;> rfl
theorem okW_all {l : List S39} {s : List S60 × Int} (hs : parseP l = some s) : ∀ k, k ≤ s.1.length → okW s.1 k = !(List.range k).any (badAt s.1)
  | 0, _ => rfl
  | k + 1, hk => by
    rw [okW, okW_all hs k (by omega), okAt_bad hs (by omega), List.range_succ, List.any_append]
    simp
theorem trace_eq (l : List S39) : traceR l = (beginP l).isSome := by
  unfold traceR traceQ beginP opsP
  cases hs : parseP l with
  | none => rfl
  | some s =>
    simp only
    rw [← okW_all hs _ (Nat.le_refl _)]
    cases okW s.1 s.1.length <;> rfl
theorem srcI_eq (ops : List S60) (r v : Int) (s : Nat) : (srcI ops r v == (s : Int)) = true ↔ srcIx ops r v = some s := by
  unfold srcI idxOf srcIx
  cases h : ops.findIdx? (isSrc r v) with
  | none => simp
  | some i => simp; omega
theorem certain_eq {ops : List S60} (hnd : ops.Pairwise (fun a b => a.f0 ≠ b.f0)) {w : Nat} (hw : w < ops.length) : certainB ops (opAt ops w) = survR ops w := by
  unfold certainB survR
  split
  · rfl
  · split
    · rfl
    · rw [Bool.eq_iff_iff]
      simp only [Bool.or_eq_true, List.any_eq_true]
      constructor
      · rintro (⟨o, ho, h⟩ | ⟨o, ho, h⟩)
        · obtain ⟨i, hi, rfl⟩ := mem_opAt ho
          split
          · rfl
          · refine List.any_eq_true.2 ⟨i, List.mem_range.2 hi, ?_⟩
            unfold rule1 at h
            unfold survAt
            simp only [Bool.and_eq_true] at h ⊢
            obtain ⟨h1, h2, h3, h4⟩ := h
            rw [h1, h2, h3, h4]
            simp
        · unfold rule2 at h
          rw [Bool.and_eq_true] at h
          obtain ⟨h1, h2⟩ := h
          split at h2
          · cases h2
          · rename_i s hsrc
            obtain ⟨hs1, hs2⟩ := src_lt hsrc
            simp only [Bool.and_eq_true, Bool.or_eq_true, beq_iff_eq] at h2
            obtain ⟨h3, h4, h5⟩ := h2
            have hsn : seenR ops s = true := List.any_eq_true.2 ⟨o, ho, by
              unfold seenB
              rw [h1, h4, (srcI_eq ops _ _ s).2 hsrc]; rfl⟩
            rcases h5 with h5 | h5
            · have : s = w := by
                rcases Nat.lt_trichotomy s w with hlt | rfl | hgt
                · exact absurd h5 (ids_ne hnd hlt hw)
                · rfl
                · exact absurd h5.symm (ids_ne hnd hgt hs1)
              subst this
              rw [if_pos hsn]
            · split
              · rfl
              · refine List.any_eq_true.2 ⟨s, List.mem_range.2 hs1, ?_⟩
                unfold survAt
                unfold isSrc at hs2
                rw [Bool.and_eq_true] at hs2
                rw [h3, h5, hsn, hs2.1]
                simp
      · intro h
        split at h
        · rename_i hsn
          obtain ⟨o, ho, h1⟩ := List.any_eq_true.1 hsn
          unfold seenB at h1
          simp only [Bool.and_eq_true] at h1
          obtain ⟨h1, h2, h3⟩ := h1
          refine .inr ⟨o, ho, ?_⟩
          unfold rule2
          rw [(srcI_eq ops _ _ w).1 h3]
          simp [h1]
          exact of_decide_eq_true h2
        · obtain ⟨i, hi, h1⟩ := List.any_eq_true.1 h
          have hi := List.mem_range.1 hi
          unfold survAt at h1
          simp only [Bool.and_eq_true, Bool.or_eq_true] at h1
          obtain ⟨h5, hp, hq⟩ := h1
          rcases hq with ⟨h4, h7⟩ | ⟨h3, hsn⟩
          · refine .inl ⟨opAt ops i, opAt_mem hi, ?_⟩
            unfold rule1
            rw [h4, h7, h5, hp]; rfl
          · obtain ⟨o, ho, h1⟩ := List.any_eq_true.1 hsn
            unfold seenB at h1
            simp only [Bool.and_eq_true] at h1
            obtain ⟨h1, h2, h6⟩ := h1
            refine .inr ⟨o, ho, ?_⟩
            unfold rule2
            rw [(srcI_eq ops _ _ i).1 h6]
            simp only
            rw [h1, h5, h2, hp]
            simp
theorem lookB_surv {ops : List S60} (hnd : ops.Pairwise (fun a b => a.f0 ≠ b.f0)) {i : Nat} (hi : i < ops.length) (h3 : (opAt ops i).f3 = true) : ∀ k, k ≤ ops.length → lookB (survP ops k) (opAt ops i).f0 = (decide (i < k) && certainB ops (opAt ops i))
  | 0, _ => by simp [survP, lookB]
  | k + 1, hk => by
    have ih := lookB_surv hnd hi h3 k (by omega)
    rw [survP]
    rcases Nat.lt_trichotomy i k with hlt | rfl | hgt
    · have hne : ((opAt ops k).f0 == (opAt ops i).f0) = false := by simpa using fun e => ids_ne hnd hlt (by omega) e.symm
      split
      · unfold lookB at ih ⊢
        rw [List.any_append, ih, List.any_cons, List.any_nil, hne, decide_eq_true hlt, decide_eq_true (show i < k + 1 by omega)]
        simp
      · rw [ih, decide_eq_true hlt, decide_eq_true (show i < k + 1 by omega)]
    · rw [if_pos h3]
      unfold lookB at ih ⊢
      rw [List.any_append, ih, List.any_cons, List.any_nil, beq_self_eq_true, decide_eq_false (Nat.lt_irrefl _), decide_eq_true (Nat.lt_succ_self _)]
      simp
    · have hne : ((opAt ops k).f0 == (opAt ops i).f0) = false := by simpa using ids_ne hnd hgt hi
      split
      · unfold lookB at ih ⊢
        rw [List.any_append, ih, List.any_cons, List.any_nil, hne, decide_eq_false (show ¬ i < k by omega), decide_eq_false (show ¬ i < k + 1 by omega)]
        simp
      · rw [ih, decide_eq_false (show ¬ i < k by omega), decide_eq_false (show ¬ i < k + 1 by omega)]
theorem surv_sv {ops : List S60} (hnd : ops.Pairwise (fun a b => a.f0 ≠ b.f0)) {i : Nat} (hi : i < ops.length) (h3 : (opAt ops i).f3 = true) : lookB (survP ops ops.length) (opAt ops i).f0 = survR ops i := by
  rw [lookB_surv hnd hi h3 _ (Nat.le_refl _), decide_eq_true hi, Bool.true_and, certain_eq hnd hi]
theorem ops_range (ops : List S60) : ops = (List.range ops.length).map (opAt ops) := by
  apply List.ext_getElem
  · simp
  · intro i h1 h2
    rw [List.getElem_map, List.getElem_range, opAt_get h1]
theorem filter_range {β : Type} (ops : List S60) (f : S60 → Option β) : ops.filterMap f = (List.range ops.length).filterMap (fun i => f (opAt ops i)) := by
  conv => lhs; rw [ops_range ops]
  rw [List.filterMap_map]; rfl
theorem range_congr {β : Type} {f g : Nat → Option β} : ∀ {n : Nat}, (∀ i, i < n → f i = g i) → (List.range n).filterMap f = (List.range n).filterMap g
  | 0, _ => rfl
  | n + 1, h => by
    rw [range_next, range_next, range_congr (fun i hi => h i (by omega)), h n (by omega)]
end Go.Proofs.Ytidghmgaaenihaa.Q

/-! part RCheck -/
namespace Go.Proofs.Ytidghmgaaenihaa.Q
open Go.RowKit Go.Proofs.YtidghmgaaenihaaW.PrintWords Go.Proofs.YtidghmgaaenihaaW.PrintLast Go.Proofs.YtidghmgaaenihaaW.PrintMore
set_option linter.unusedVariables false
set_option linter.unusedSimpArgs false

def staleF (ops : List S60) (r : S60) (s : Int) : Option S32 := if 0 ≤ firstI ops.length (staleAt ops r s) then some ⟨3, r.f0, (opAt ops (firstI ops.length (staleAt ops r s)).toNat).f0⟩ else none
def faultF (ops : List S60) (r : S60) (s : Int) : Option S32 :=
  if s < 0 then (if r.f2 = 0 then staleF ops r s else some ⟨1, r.f0, -1⟩)
  else if r.f7 < (opAt ops s.toNat).f6 then some ⟨2, r.f0, (opAt ops s.toNat).f0⟩ else staleF ops r s
def faultQ (ops : List S60) (i : Nat) : Option S32 := if ansB (opAt ops i) = true then faultF ops (opAt ops i) (srcI ops (opAt ops i).f1 (opAt ops i).f2) else none
def checkQ (l : List S39) : List S32 × Int := if traceR l = true then ((List.range (opsP l).1.length).filterMap (faultQ (opsP l).1), 0) else ([], 1)
end Go.Proofs.Ytidghmgaaenihaa.Q

/-! part PCheck -/
namespace Go.Proofs.Ytidghmgaaenihaa.Q
open Go.RowKit
set_option linter.unusedVariables false
set_option linter.unusedSimpArgs false

def to32 (f : S33) : S32 := ⟨f.f0, f.f1, f.f2⟩
theorem idx_first {ops : List S60} {p : S60 → Bool} {q : Nat → Bool} (h : ∀ i, i < ops.length → p (opAt ops i) = q i) : idxOf ops p = firstI ops.length q := by
  unfold firstI
  cases hf : (List.range ops.length).find? q with
  | none =>
    have := List.find?_eq_none.1 hf
    refine idxOf_miss (fun o ho => ?_)
    obtain ⟨i, hi, rfl⟩ := mem_opAt ho
    rw [h i hi]
    simpa using this i (List.mem_range.2 hi)
  | some i =>
    have hi := List.mem_range.1 (List.mem_of_find?_eq_some hf)
    rw [List.find?_range_eq_some] at hf
    obtain ⟨h1, _, h3⟩ := hf
    show idxOf ops p = (i : Int)
    refine idxOf_hit (by omega) (by omega) (fun o ho => ?_) (by rw [rd60_opAt hi, h i hi]; exact h1)
    rw [Int.toNat_natCast] at ho
    obtain ⟨j, hj, rfl⟩ := List.mem_iff_getElem.1 ho
    rw [List.length_take] at hj
    rw [List.getElem_take, ← opAt_get (by omega), h j (by omega)]
    simpa using h3 j (by omega)
theorem stale_eq {l : List S39} {s : List S60 × Int} (hs : parseP l = some s) (r : S60) (si : Option Nat) {i : Nat} (hi : i < s.1.length) :
    staleB s.1 (survP s.1 s.1.length) r si (opAt s.1 i) = staleAt s.1 r (match si with | some k => (k : Int) | none => -1) i := by
  have hnd := (ptake_inv l l.length hs).nodup
  have hsq := (parse_tinv hs).seq _ (opAt_mem hi)
  unfold staleB staleAt
  cases h3 : (opAt s.1 i).f3 with
  | false => rfl
  | true =>
    have hf : finalB (survP s.1 s.1.length) (opAt s.1 i) r = finalR s.1 i r := by
      unfold finalB finalR precB
      rw [surv_sv hnd hi h3, Bool.and_assoc]
    rw [hf]
    cases si with
    | none =>
      have e : ((i : Int) == -1) = false := beq_eq_false_iff_ne.2 (by omega)
      simp only [hidesB, hideR, e]
      simp
    | some k =>
      simp only [hidesB, hideR]
      rw [decide_eq_false (show ¬ (k : Int) < 0 by omega), Int.toNat_natCast, Bool.false_or]
      by_cases hik : i = k
      · subst hik
        have e1 : precB (opAt s.1 i) (opAt s.1 i) = false := by
          unfold precB
          rcases hsq with h | ⟨h, _⟩
          · rw [h]; rfl
          · rw [decide_eq_false (show ¬ (opAt s.1 i).f7 < (opAt s.1 i).f6 by omega), Bool.and_false]
        rw [e1]
        simp
      · have e : ((i : Int) == (k : Int)) = false := beq_eq_false_iff_ne.2 (by omega)
        rw [e]
        cases ((opAt s.1 i).f1 == r.f1) <;> cases (finalR s.1 i r) <;> cases (precB (opAt s.1 k) (opAt s.1 i) || decide ((opAt s.1 k).f5 < (opAt s.1 i).f5)) <;> rfl
theorem judge_eq {l : List S39} {s : List S60 × Int} (hs : parseP l = some s) (r : S60) (si : Option Nat) :
    (if (judgeS s.1 (survP s.1 s.1.length) r si).2 = true then some (to32 (judgeS s.1 (survP s.1 s.1.length) r si).1) else none) = staleF s.1 r (match si with | some k => (k : Int) | none => -1) := by
  have e := idx_first (fun i hi => stale_eq hs r si hi)
  have hrg := idxOf_range s.1 (staleB s.1 (survP s.1 s.1.length) r si)
  unfold judgeS staleF
  rw [← e]
  by_cases h : idxOf s.1 (staleB s.1 (survP s.1 s.1.length) r si) < 0
  · rw [if_pos h, if_neg (show ¬ 0 ≤ idxOf s.1 (staleB s.1 (survP s.1 s.1.length) r si) by omega)]; rfl
  · rw [if_neg h]
    simp only [if_true, to32]
    obtain ⟨k, hk⟩ : ∃ k : Nat, idxOf s.1 (staleB s.1 (survP s.1 s.1.length) r si) = k := ⟨(idxOf s.1 (staleB s.1 (survP s.1 s.1.length) r si)).toNat, by omega⟩
    rw [hk, Int.toNat_natCast, rd60_opAt (by omega), if_pos (show (0 : Int) ≤ k by omega)]
theorem fault_eq {l : List S39} {s : List S60 × Int} (hs : parseP l = some s) (i : Nat) : faultQ s.1 i = (faultOf s.1 (survP s.1 s.1.length) (opAt s.1 i)).map to32 := by
  unfold faultQ faultOf
  split
  · unfold faultF judgeB srcI idxOf
    have ej := fun si => judge_eq hs (opAt s.1 i) si
    cases hx : srcIx s.1 (opAt s.1 i).f1 (opAt s.1 i).f2 with
    | none =>
      have hx' : s.1.findIdx? (isSrc (opAt s.1 i).f1 (opAt s.1 i).f2) = none := hx
      rw [hx']
      simp only
      rw [if_pos (by decide)]
      split
      · rw [← ej none]
        split <;> simp [*]
      · rfl
    | some k =>
      have hx' : s.1.findIdx? (isSrc (opAt s.1 i).f1 (opAt s.1 i).f2) = some k := hx
      rw [hx']
      simp only
      rw [if_neg (by omega), Int.toNat_natCast]
      split
      · rfl
      · rw [← ej (some k)]
        split <;> simp [*]
  · rfl
theorem map_range {n : Nat} {f : Nat → Option S33} : (List.range n).filterMap (fun i => (f i).map to32) = ((List.range n).filterMap f).map to32 := by
  rw [List.map_filterMap]
theorem checkQ_eq (l : List S39) : checkQ l = ((checkP l).1.map to32, (checkP l).2) := by
  unfold checkQ checkP
  rw [trace_eq]
  unfold beginP opsP
  cases hs : parseP l with
  | none => rfl
  | some s =>
    simp only
    cases hk : okW s.1 s.1.length with
    | false => rfl
    | true =>
      simp only [if_true, Option.isSome_some]
      rw [filter_range, ← map_range, range_congr (fun i _ => fault_eq hs i)]
end Go.Proofs.Ytidghmgaaenihaa.Q

/-! part PApp -/
namespace Go.Proofs.Ytidghmgaaenihaa.Q
open Go.RowKit
set_option linter.unusedVariables false
set_option linter.unusedSimpArgs false

theorem rdE_app (l m : List S39) {k : Nat} (h : k < l.length) : rd_T39 (l ++ m) (k : Int) = rd_T39 l k := by
  unfold rd_T39
  rw [Int.toNat_natCast, List.getD_eq_getElem?_getD, List.getD_eq_getElem?_getD, List.getElem?_append_left h]
theorem rdE_end (l : List S39) (e : S39) : rd_T39 (l ++ [e]) (l.length : Int) = e := by
  unfold rd_T39
  rw [Int.toNat_natCast, List.getD_eq_getElem?_getD, List.getElem?_append_right (Nat.le_refl _)]
  simp
theorem pstep_app (l m : List S39) {k : Nat} (hk : k ≤ l.length) (i : Int) (e : S39) {s : List S60 × Int} (I : PInv k s) : pstep (l ++ m) i e s = pstep l i e s := by
  unfold pstep
  split
  · rfl
  · split
    · cases hj : at? s.1 e.f1 with
      | none => rfl
      | some j =>
        obtain ⟨h1, h2, h3⟩ := at?_some hj
        have hc := I.call _ h3
        have e : rd_T39 (l ++ m) (opAt s.1 j).f6 = rd_T39 l (opAt s.1 j).f6 := by
          obtain ⟨n, hn⟩ : ∃ n : Nat, (opAt s.1 j).f6 = n := ⟨(opAt s.1 j).f6.toNat, by omega⟩
          rw [hn]; exact rdE_app l m (by omega)
        simp only [e]
    · rfl
theorem ptake_app (l m : List S39) : ∀ k, k ≤ l.length → ptake (l ++ m) k = ptake l k
  | 0, _ => rfl
  | k + 1, h => by
    rw [ptake, ptake, ptake_app l m k (by omega), rdE_app l m (by omega)]
    cases hs : ptake l k with
    | none => rfl
    | some s => exact pstep_app l m (by omega) _ _ (ptake_inv l k hs)
theorem parse_snoc (l : List S39) (e : S39) : parseP (l ++ [e]) = (parseP l).bind (pstep l l.length e) := by
  unfold parseP
  rw [List.length_append, List.length_singleton, ptake, ptake_app l [e] _ (Nat.le_refl _), rdE_end]
  cases hs : ptake l l.length with
  | none => rfl
  | some s => exact pstep_app l [e] (Nat.le_refl _) _ _ (ptake_inv l _ hs)
theorem at?_fresh {ops : List S60} {id : Int} (h : ∀ o ∈ ops, o.f0 ≠ id) : at? ops id = none := List.findIdx?_eq_none_iff.2 (fun o ho => by simpa using h o ho)
theorem parse_call {l : List S39} {ops : List S60} {era : Int} (h : parseP l = some (ops, era)) {e : S39} (h0 : e.f0 = 1) (hp : properB e = true) (hn : at? ops e.f1 = none) :
    parseP (l ++ [e]) = some (ops ++ [newOp e era l.length], era) := by
  rw [parse_snoc, h]
  show pstep l l.length e (ops, era) = _
  unfold pstep
  rw [if_pos h0, hn]
  simp only
  rw [if_pos hp]
theorem parse_cut {l : List S39} {ops : List S60} {era : Int} (h : parseP l = some (ops, era)) : parseP (l ++ [cutE]) = some (ops, era + 1) := by
  rw [parse_snoc, h]
  rfl
theorem parse_done {l : List S39} {ops : List S60} {era : Int} (h : parseP l = some (ops, era)) {e : S39} (h0 : e.f0 = 2) {j : Nat} (hj : at? ops e.f1 = some j) (h7 : (opAt ops j).f7 < 0) (h5 : (opAt ops j).f5 = era) (ha : answersB e (rd_T39 l (opAt ops j).f6) = true) :
    parseP (l ++ [e]) = some (ops.set j (doneOp (opAt ops j) e l.length), era) := by
  rw [parse_snoc, h]
  show pstep l l.length e (ops, era) = _
  unfold pstep
  rw [if_neg (by omega), if_pos h0, hj]
  simp only
  rw [if_neg (by omega), if_pos h5, if_pos ha]
end Go.Proofs.Ytidghmgaaenihaa.Q

/-! part PTorn -/
namespace Go.Proofs.Ytidghmgaaenihaa.Q
open Go.RowKit
set_option linter.unusedVariables false
set_option linter.unusedSimpArgs false

def wOp (r : Nat → Int) (i : Nat) : S60 := ⟨i, r i, i + 1, true, false, 0, 2 * i, 2 * i + 1⟩
def wOps (r : Nat → Int) (n : Nat) : List S60 := (List.range n).map (wOp r)
def wEv (r : Nat → Int) : Nat → List S39
  | 0 => []
  | i + 1 => wEv r i ++ [⟨1, i, true, r i, i + 1, false⟩, ⟨2, i, true, r i, i + 1, false⟩]
theorem wEv_len (r : Nat → Int) : ∀ n, (wEv r n).length = 2 * n
  | 0 => rfl
  | n + 1 => by rw [wEv, List.length_append, wEv_len r n]; simp; omega
theorem wOps_len (r : Nat → Int) (n : Nat) : (wOps r n).length = n := by simp [wOps]
theorem wOps_mem {r : Nat → Int} {n : Nat} {o : S60} (h : o ∈ wOps r n) : ∃ i, i < n ∧ o = wOp r i := by
  obtain ⟨i, hi, rfl⟩ := List.mem_map.1 h
  exact ⟨i, List.mem_range.1 hi, rfl⟩
theorem set_end (ops : List S60) (o o' : S60) : (ops ++ [o]).set ops.length o' = ops ++ [o'] := by
  rw [List.set_append_right _ _ (Nat.le_refl _)]; simp
theorem opAt_end (ops : List S60) (o : S60) : opAt (ops ++ [o]) ops.length = o := by
  unfold opAt
  rw [List.getD_eq_getElem?_getD, List.getElem?_append_right (Nat.le_refl _)]; simp
theorem at?_end {ops : List S60} {o : S60} {id : Int} (h : ∀ a ∈ ops, a.f0 ≠ id) (ho : o.f0 = id) : at? (ops ++ [o]) id = some ops.length := by
  have hn : List.findIdx? (fun o : S60 => o.f0 == id) ops = none := at?_fresh h
  unfold at?
  rw [List.findIdx?_append, hn, List.findIdx?_cons]
  simp [ho]
/-- An operation that is called and answered at once. -/
theorem parse_pair {l : List S39} {ops : List S60} {era : Int} (h : parseP l = some (ops, era)) {id reg v v' : Int} {wr br : Bool} (hp : properB ⟨1, id, wr, reg, v, br⟩ = true) (hn : ∀ o ∈ ops, o.f0 ≠ id) (hv : wr = true ∨ br = true → v' = v) :
    parseP (l ++ [⟨1, id, wr, reg, v, br⟩, ⟨2, id, wr, reg, v', br⟩]) = some (ops ++ [⟨id, reg, v', wr, br, era, l.length, l.length + 1⟩], era) := by
  have h1 := parse_call h (e := ⟨1, id, wr, reg, v, br⟩) rfl hp (at?_fresh hn)
  have e : l ++ [⟨1, id, wr, reg, v, br⟩, ⟨2, id, wr, reg, v', br⟩] = (l ++ [⟨1, id, wr, reg, v, br⟩]) ++ [⟨2, id, wr, reg, v', br⟩] := by simp
  rw [e]
  have hat : at? (ops ++ [newOp ⟨1, id, wr, reg, v, br⟩ era l.length]) id = some ops.length := at?_end hn rfl
  have hr : rd_T39 (l ++ [⟨1, id, wr, reg, v, br⟩]) (l.length : Int) = ⟨1, id, wr, reg, v, br⟩ := rdE_end l _
  refine (parse_done h1 (e := ⟨2, id, wr, reg, v', br⟩) rfl hat ?_ ?_ ?_).trans ?_
  · rw [opAt_end]; show (-1 : Int) < 0; decide
  · rw [opAt_end]; rfl
  · rw [opAt_end]
    show answersB _ (rd_T39 _ (l.length : Int)) = true
    rw [hr]
    unfold answersB
    cases wr <;> cases br <;> simp at hv ⊢ <;> exact hv
  · rw [opAt_end, set_end]
    simp [doneOp, newOp]
theorem wEv_parse (r : Nat → Int) (hr : ∀ i, 0 ≤ r i) : ∀ n, parseP (wEv r n) = some (wOps r n, 0)
  | 0 => rfl
  | n + 1 => by
    rw [wEv, parse_pair (wEv_parse r hr n)]
    · unfold wOps
      rw [List.range_succ, List.map_append, wEv_len]
      simp [wOp]
    · have h1 := hr n
      unfold properB
      rw [if_neg (show ¬ ((n : Int) < 0) by omega), if_neg (show ¬ (r n < 0) by omega), if_neg (show ¬ ((n : Int) + 1 < 0) by omega)]
      rfl
    · intro o ho
      obtain ⟨i, hi, rfl⟩ := wOps_mem ho
      show (i : Int) ≠ n
      omega
    · intro _; rfl

def tornL (r : Nat → Int) (n k : Nat) (other got : Int) : List S39 := wEv r n ++ [cutE] ++ [⟨1, n, false, r k, 0, false⟩, ⟨2, n, false, r k, k + 1, false⟩] ++ [⟨1, n + 1, false, other, 0, false⟩, ⟨2, n + 1, false, other, got, false⟩]
def tornO (r : Nat → Int) (n k : Nat) (other got : Int) : List S60 := wOps r n ++ [⟨n, r k, k + 1, false, false, 1, 2 * n + 1, 2 * n + 2⟩] ++ [⟨n + 1, other, got, false, false, 1, 2 * n + 3, 2 * n + 4⟩]
theorem prec_w (r : Nat → Int) (a : Nat) (o : S60) : precB (wOp r a) o = decide ((2 * (a : Int) + 1) < o.f6) := by
  unfold precB
  rw [show decide (0 ≤ (wOp r a).f7) = true from decide_eq_true (by show (0 : Int) ≤ 2 * (a : Int) + 1; omega), Bool.true_and]
  rfl
section
variable {r : Nat → Int} {n k : Nat} {other : Int} {got : Nat}
theorem torn_parse (hr : ∀ i, 0 ≤ r i) (ho : 0 ≤ other) : parseP (tornL r n k other got) = some (tornO r n k other got, 1) := by
  have h0 := parse_cut (wEv_parse r hr n)
  have h1 := parse_pair h0 (id := n) (reg := r k) (v := 0) (v' := k + 1) (wr := false) (br := false) (by
      have h1 := hr k
      unfold properB
      rw [if_neg (show ¬ ((n : Int) < 0) by omega), if_neg (show ¬ (r k < 0) by omega), if_neg (show ¬ ((0 : Int) < 0) by omega)]
      rfl) (by
      intro o hm
      obtain ⟨i, hi, rfl⟩ := wOps_mem hm
      show (i : Int) ≠ n
      omega) (by intro h; simp at h)
  have h2 := parse_pair h1 (id := n + 1) (reg := other) (v := 0) (v' := got) (wr := false) (br := false) (by
      unfold properB
      rw [if_neg (show ¬ ((n : Int) + 1 < 0) by omega), if_neg (show ¬ (other < 0) by omega), if_neg (show ¬ ((0 : Int) < 0) by omega)]
      rfl) (by
      intro o hm
      rcases List.mem_append.1 hm with hm | hm
      · obtain ⟨i, hi, rfl⟩ := wOps_mem hm
        show (i : Int) ≠ n + 1
        omega
      · rw [List.mem_singleton.1 hm]
        show (n : Int) ≠ n + 1
        omega) (by intro h; simp at h)
  unfold tornL
  rw [h2]
  unfold tornO
  simp only [List.length_append, wEv_len, List.length_cons, List.length_nil]
  congr 3

theorem tornO_len : (tornO r n k other got).length = n + 2 := by simp [tornO, wOps_len]
theorem tornO_w {i : Nat} (h : i < n) : opAt (tornO r n k other got) i = wOp r i := by
  unfold opAt tornO
  rw [List.getD_eq_getElem?_getD, List.getElem?_append_left (by simp [wOps_len]; omega), List.getElem?_append_left (by simp [wOps_len]; omega)]
  simp [wOps, h]
theorem tornO_1 : opAt (tornO r n k other got) n = ⟨n, r k, k + 1, false, false, 1, 2 * n + 1, 2 * n + 2⟩ := by
  unfold opAt tornO
  rw [List.getD_eq_getElem?_getD, List.getElem?_append_left (by simp [wOps_len]), List.getElem?_append_right (by simp [wOps_len])]
  simp [wOps_len]
theorem tornO_2 : opAt (tornO r n k other got) (n + 1) = ⟨n + 1, other, got, false, false, 1, 2 * n + 3, 2 * n + 4⟩ := by
  unfold opAt tornO
  rw [List.getD_eq_getElem?_getD, List.getElem?_append_right (by simp [wOps_len])]
  simp [wOps_len]
theorem torn_cases {i : Nat} (h : i < n + 2) : i < n ∨ i = n ∨ i = n + 1 := by omega
theorem torn_src {j : Nat} (hj : j < n) {reg : Int} (h : r j = reg) : srcI (tornO r n k other got) reg ((j : Int) + 1) = j := by
  unfold srcI
  rw [idx_first (q := fun i => isSrc reg ((j : Int) + 1) (opAt (tornO r n k other got) i)) (fun _ _ => rfl), tornO_len]
  refine firstI_hit (by omega) (fun i hi => ?_) ?_
  · show isSrc _ _ (opAt _ i) = false
    rw [tornO_w (by omega)]
    unfold isSrc wOp
    simp; omega
  · show isSrc _ _ (opAt _ j) = true
    rw [tornO_w hj]
    unfold isSrc wOp
    simp [h]
theorem torn_src0 {reg : Int} : srcI (tornO r n k other got) reg 0 = -1 := by
  unfold srcI
  rw [idx_first (q := fun i => isSrc reg 0 (opAt (tornO r n k other got) i)) (fun _ _ => rfl), tornO_len]
  refine firstI_miss (fun i hi => ?_)
  show isSrc _ _ (opAt _ i) = false
  rcases torn_cases hi with h | rfl | rfl
  · rw [tornO_w h]; unfold isSrc wOp; simp; omega
  · rw [tornO_1]; rfl
  · rw [tornO_2]; rfl
theorem torn_src2 (hgot : got ≤ n) (hg : 0 < got → r (got - 1) = other) : srcI (tornO r n k other got) other got = (got : Int) - 1 := by
  rcases Nat.eq_zero_or_pos got with h | h
  · subst h; exact torn_src0
  · have := torn_src (r := r) (n := n) (k := k) (other := other) (got := got) (j := got - 1) (by omega) (hg h)
    rw [show (((got - 1 : Nat) : Int) + 1) = got by omega] at this
    rw [this]; omega
theorem torn_seen (hk : k < n) (hgot : got ≤ n) (hg : 0 < got → r (got - 1) = other) {v : Nat} (hv : v < n) : seenR (tornO r n k other got) v = decide (v = k ∨ v + 1 = got) := by
  rw [Bool.eq_iff_iff, decide_eq_true_eq]
  unfold seenR
  rw [List.any_eq_true]
  have e1 : seenB (tornO r n k other got) v (opAt (tornO r n k other got) n) = decide (v = k) := by
    unfold seenB
    rw [tornO_1, tornO_w hv]
    simp only
    rw [torn_src hk rfl]
    simp [ansB, wOp]
    by_cases h : v = k
    · subst h; simp; omega
    · simp [h]; omega
  have e2 : seenB (tornO r n k other got) v (opAt (tornO r n k other got) (n + 1)) = decide (v + 1 = got) := by
    unfold seenB
    rw [tornO_2, tornO_w hv]
    simp only
    rw [torn_src2 hgot hg]
    simp [ansB, wOp]
    by_cases h : v + 1 = got
    · subst h; simp; omega
    · simp [h]; omega
  constructor
  · rintro ⟨o, ho, h⟩
    obtain ⟨i, hi, rfl⟩ := mem_opAt ho
    rw [tornO_len] at hi
    rcases torn_cases hi with hi | rfl | rfl
    · rw [tornO_w hi] at h; simp [seenB, ansB, wOp] at h
    · rw [e1] at h; exact .inl (of_decide_eq_true h)
    · rw [e2] at h; exact .inr (of_decide_eq_true h)
  · rintro (h | h)
    · exact ⟨_, opAt_mem (by rw [tornO_len]; omega), e1.trans (decide_eq_true h)⟩
    · exact ⟨_, opAt_mem (by rw [tornO_len]; omega), e2.trans (decide_eq_true h)⟩
theorem torn_surv (hk : k < n) (hgot : got ≤ n) (hg : 0 < got → r (got - 1) = other) {v : Nat} (hv : v < n) : survR (tornO r n k other got) v = decide (v ≤ k ∨ v < got) := by
  unfold survR
  rw [torn_seen hk hgot hg hv, tornO_len, tornO_w hv]
  rw [if_neg (show ¬ (wOp r v).f7 < 0 by simp only [wOp]; omega), if_neg (show ¬ (wOp r v).f4 = true by simp [wOp])]
  by_cases h : v = k ∨ v + 1 = got
  · rw [if_pos (decide_eq_true h)]
    exact (decide_eq_true (by omega)).symm
  · rw [if_neg (by simpa using h), Bool.eq_iff_iff, decide_eq_true_eq, List.any_eq_true]
    constructor
    · rintro ⟨i, hi, hs⟩
      have hi := List.mem_range.1 hi
      unfold survAt at hs
      rw [tornO_w hv] at hs
      rcases torn_cases hi with hi | rfl | rfl
      · rw [tornO_w hi, torn_seen hk hgot hg hi, prec_w] at hs
        have hs2 : ((0 : Int) == 0 && (decide ((2 * (v : Int) + 1) < 2 * (i : Int)) && (false && decide (0 ≤ (wOp r i).f7) || true && decide (i = k ∨ i + 1 = got)))) = true := hs
        simp at hs2
        omega
      · rw [tornO_1] at hs; simp [wOp] at hs
      · rw [tornO_2] at hs; simp [wOp] at hs
    · intro h2
      obtain ⟨i, hi, hvi, hs⟩ : ∃ i, i < n ∧ v < i ∧ (i = k ∨ i + 1 = got) := by
        by_cases h3 : v < k
        · exact ⟨k, hk, h3, .inl rfl⟩
        · exact ⟨got - 1, by omega, by omega, .inr (by omega)⟩
      refine ⟨i, List.mem_range.2 (by omega), ?_⟩
      unfold survAt
      rw [tornO_w hv, tornO_w hi, torn_seen hk hgot hg hi, decide_eq_true hs, prec_w]
      show ((0 : Int) == 0 && (decide ((2 * (v : Int) + 1) < 2 * (i : Int)) && (false && decide (0 ≤ (wOp r i).f7) || true && true))) = true
      simp
      omega
theorem torn_trace (hr : ∀ i, 0 ≤ r i) (ho : 0 ≤ other) : traceR (tornL r n k other got) = true := by
  unfold traceR opsP
  rw [torn_parse hr ho]
  simp only
  rw [trace_ok]
  · rfl
  · intro i hi
    rw [tornO_len] at hi
    unfold badAt
    rcases torn_cases hi with hi | rfl | rfl
    · rw [tornO_w hi, range_no]
      · simp [wOp]; omega
      · intro j hj
        unfold twin
        rw [tornO_w hi, tornO_w (by omega)]
        simp [wOp]; omega
    · rw [tornO_1]; rfl
    · rw [tornO_2]; rfl
def tornP1 (r : Nat → Int) (n k got : Nat) (i : Nat) : Bool := decide (i < n) && (r i == r k && (decide (k < i) && decide (i < got)))
def tornP2 (r : Nat → Int) (n k : Nat) (other : Int) (got : Nat) (i : Nat) : Bool := decide (i < n) && (r i == other && (decide (got ≤ i) && decide (i ≤ k)))
theorem firstI_congr {n : Nat} {p q : Nat → Bool} (h : ∀ i, i < n → p i = q i) : firstI n p = firstI n q := by
  unfold firstI
  have e : (List.range n).find? p = (List.range n).find? q := by
    have key : ∀ l : List Nat, (∀ i ∈ l, p i = q i) → l.find? p = l.find? q := by
      intro l
      induction l with
      | nil => intro _; rfl
      | cons a t ih =>
        intro hh
        rw [List.find?_cons, List.find?_cons, hh a (by simp), ih (fun i hi => hh i (by simp [hi]))]
    exact key _ (fun i hi => h i (List.mem_range.1 hi))
  rw [e]
theorem firstI_spec {n : Nat} {p : Nat → Bool} : (firstI n p = -1 ∧ ∀ j, j < n → p j = false) ∨ ∃ i : Nat, firstI n p = i ∧ i < n ∧ p i = true ∧ ∀ j, j < i → p j = false := by
  unfold firstI
  cases hf : (List.range n).find? p with
  | none =>
    have := List.find?_eq_none.1 hf
    exact .inl ⟨rfl, fun j hj => by simpa using this j (List.mem_range.2 hj)⟩
  | some i =>
    have hi := List.mem_range.1 (List.mem_of_find?_eq_some hf)
    rw [List.find?_range_eq_some] at hf
    obtain ⟨h1, _, h3⟩ := hf
    exact .inr ⟨i, rfl, hi, h1, fun j hj => by simpa using h3 j hj⟩
def tornF (id : Int) (x : Int) : Option S32 := if 0 ≤ x then some ⟨3, id, x⟩ else none
theorem torn_staleF {rd : S60} {s : Int} {p : Nat → Bool} (h : ∀ i, i < n + 2 → staleAt (tornO r n k other got) rd s i = p i) (hp : ∀ i, p i = true → i < n) : staleF (tornO r n k other got) rd s = tornF rd.f0 (firstI (n + 2) p) := by
  unfold staleF tornF
  rw [tornO_len, firstI_congr h]
  rcases firstI_spec (n := n + 2) (p := p) with ⟨e, _⟩ | ⟨i, e, hi, hpi, _⟩
  · rw [e]; rfl
  · rw [e, if_pos (by omega), if_pos (by omega), Int.toNat_natCast, tornO_w (hp i hpi)]; rfl
theorem torn_check (hr : ∀ i, 0 ≤ r i) (ho : 0 ≤ other) (hk : k < n) (hne : other ≠ r k) (hgot : got ≤ n) (hg : 0 < got → r (got - 1) = other) :
    checkQ (tornL r n k other got) = ((tornF n (firstI (n + 2) (tornP1 r n k got))).toList ++ (tornF (n + 1) (firstI (n + 2) (tornP2 r n k other got))).toList, 0) := by
  unfold checkQ
  rw [if_pos (torn_trace hr ho)]
  unfold opsP
  rw [torn_parse hr ho]
  simp only
  rw [tornO_len, List.range_succ, List.range_succ, List.filterMap_append, List.filterMap_append]
  have e0 : (List.range n).filterMap (faultQ (tornO r n k other got)) = [] := by
    rw [List.filterMap_eq_nil_iff]
    intro i hi
    unfold faultQ
    rw [tornO_w (List.mem_range.1 hi)]
    rfl
  have e1 : faultQ (tornO r n k other got) n = tornF n (firstI (n + 2) (tornP1 r n k got)) := by
    unfold faultQ
    rw [tornO_1, if_pos (by simp [ansB]; omega)]
    simp only
    rw [torn_src hk rfl]
    unfold faultF
    rw [if_neg (by omega), Int.toNat_natCast, tornO_w hk, if_neg (by simp only [wOp]; omega)]
    refine torn_staleF (fun i hi => ?_) (fun i hp => by unfold tornP1 at hp; simp at hp; exact hp.1)
    unfold staleAt tornP1 finalR hideR
    rcases torn_cases hi with hi | rfl | rfl
    · rw [tornO_w hi, torn_surv hk hgot hg hi, Int.toNat_natCast, tornO_w hk, decide_eq_true hi, prec_w, prec_w]
      show (true && (r i == r k && (!((i : Int) == (k : Int)) && ((decide ((2 * (i : Int) + 1) < 2 * n + 1) && ((0 : Int) == 1 || decide (i ≤ k ∨ i < got))) && (decide ((k : Int) < 0) || (decide ((2 * (k : Int) + 1) < 2 * (i : Int)) || decide ((0 : Int) < 0))))))) = _
      rw [Bool.eq_iff_iff]
      simp
      omega
    · rw [tornO_1]; simp
    · rw [tornO_2]; simp; omega
  have e2 : faultQ (tornO r n k other got) (n + 1) = tornF (n + 1) (firstI (n + 2) (tornP2 r n k other got)) := by
    unfold faultQ
    rw [tornO_2, if_pos (by simp [ansB]; omega)]
    simp only
    rw [torn_src2 hgot hg]
    have key : ∀ i, i < n + 2 → staleAt (tornO r n k other got) ⟨n + 1, other, got, false, false, 1, 2 * n + 3, 2 * n + 4⟩ ((got : Int) - 1) i = tornP2 r n k other got i := by
      intro i hi
      unfold staleAt tornP2 finalR hideR
      rcases torn_cases hi with hi | rfl | rfl
      · rw [tornO_w hi, torn_surv hk hgot hg hi, decide_eq_true hi, prec_w]
        rcases Nat.eq_zero_or_pos got with h0 | h0
        · subst h0
          show (true && (r i == other && (!((i : Int) == ((0 : Nat) : Int) - 1) && ((decide ((2 * (i : Int) + 1) < 2 * n + 3) && ((0 : Int) == 1 || decide (i ≤ k ∨ i < 0))) && (decide ((((0 : Nat) : Int) - 1) < 0) || _))))) = _
          rw [Bool.eq_iff_iff]
          simp
          omega
        · rw [show ((got : Int) - 1).toNat = got - 1 by omega, tornO_w (show got - 1 < n by omega), prec_w]
          have hio : r i = other → i ≠ k := fun h1 h2 => hne (by rw [← h1, h2])
          show (true && (r i == other && (!((i : Int) == (got : Int) - 1) && ((decide ((2 * (i : Int) + 1) < 2 * n + 3) && ((0 : Int) == 1 || decide (i ≤ k ∨ i < got))) && (decide ((got : Int) - 1 < 0) || (decide ((2 * ((got - 1 : Nat) : Int) + 1) < 2 * (i : Int)) || decide ((0 : Int) < 0))))))) = _
          rw [Bool.eq_iff_iff]
          simp
          omega
      · rw [tornO_1]; simp
      · rw [tornO_2]; simp; omega
    have hp2 : ∀ i, tornP2 r n k other got i = true → i < n := fun i hp => by unfold tornP2 at hp; simp at hp; exact hp.1
    unfold faultF
    rcases Nat.eq_zero_or_pos got with h0 | h0
    · rw [if_pos (by omega), if_pos (by simp; omega)]
      exact torn_staleF key hp2
    · rw [if_neg (by omega), show ((got : Int) - 1).toNat = got - 1 by omega, tornO_w (show got - 1 < n by omega), if_neg (by simp only [wOp]; omega)]
      exact torn_staleF key hp2
  rw [e0, List.filterMap_cons, List.filterMap_cons, e1, e2]
  cases tornF n (firstI (n + 2) (tornP1 r n k got)) <;> cases tornF (n + 1) (firstI (n + 2) (tornP2 r n k other got)) <;> rfl
end
end Go.Proofs.Ytidghmgaaenihaa.Q

/-! part Q26 -/
namespace Go.Proofs.Ytidghmgaaenihaa.Q
open Go.RowKit Go.Proofs.YtidghmgaaenihaaW.PrintWords Go.Proofs.YtidghmgaaenihaaW.PrintLast Go.Proofs.YtidghmgaaenihaaW.PrintMore
attribute [local go_sem] max2_int min2_int max_two min_two max_three min_three max_four min_four
set_option linter.unusedVariables false
set_option linter.unusedSimpArgs false

attribute [local go_sem high] eqA33
/-! ### tegulalaw47_torn: function 26 -/
mutual
def tegulalaw47_torn.j0 : Nat → List Int → Int → Int → Int → Int → Bool → Option (Bool)
  | 0, _, _, _, _, _, _ => none
  | k + 1, x0, x1, x2, x3, x9, x41 => if x41 = true then (some true) else (tegulalaw47_torn.l0 k x0 x1 x2 x3 x9 ([] : List (S39)) 0)
def tegulalaw47_torn.l0 : Nat → List Int → Int → Int → Int → Int → List (S39) → Int → Option (Bool)
  | 0, _, _, _, _, _, _, _ => none
  | k + 1, x0, x1, x2, x3, x9, x10, x11 => if x11 < x9 then (if 0 ≤ x11 then (if x11 < (x0.length : Int) then ((tegulalaw47_write.f x11 (wrap64 (Int.tmod (rd x0 x11) 4)) (wrap64 (x11 + 1))).bind fun t293 => (if x10.length + t293.length < 2932031007402 then (tegulalaw47_torn.l0 k x0 x1 x2 x3 x9 (x10 ++ t293) (wrap64 (x11 + 1))) else (none))) else (none)) else (none)) else (if x10.length < 2932031007402 then ((some (x10 ++ [(⟨3, 0, false, 0, 0, false⟩ : S39)] : List (S39))).bind fun y299 => (if 0 ≤ x1 then (if x1 < (x0.length : Int) then ((tegulalaw47_read.f x9 (wrap64 (Int.tmod (rd x0 x1) 4)) (wrap64 (x1 + 1))).bind fun t303 => (if y299.length + t303.length < 2932031007402 then ((some (y299 ++ t303 : List (S39))).bind fun y306 => ((tegulalaw47_read.f (wrap64 (x9 + 1)) x2 x3).bind fun t309 => (if y306.length + t309.length < 2932031007402 then ((durable_Check.f (y306 ++ t309)).bind fun bt315 => (tegulalaw47_torn.l1 k x0 x1 x2 x3 x9 bt315.1 bt315.2 x3)) else (none)))) else (none))) else (none)) else (none))) else (none))
def tegulalaw47_torn.j3 : Nat → List Int → Int → Int → Int → List (S33) → Int → Int → Option (Bool)
  | 0, _, _, _, _, _, _, _ => none
  | k + 1, x0, x1, x3, x9, x12, x13, x14 => if x13 = 0 then (tegulalaw47_torn.j4 k x0 x1 x3 x9 x12 x14 (decide ((x12.length : Int) > 1))) else (tegulalaw47_torn.j4 k x0 x1 x3 x9 x12 x14 true)
def tegulalaw47_torn.j4 : Nat → List Int → Int → Int → Int → List (S33) → Int → Bool → Option (Bool)
  | 0, _, _, _, _, _, _, _ => none
  | k + 1, x0, x1, x3, x9, x12, x14, x108 => if x108 = true then (some false) else (if x3 > 0 then (tegulalaw47_torn.l2 k x0 x1 x3 x9 x12 x14 false (wrap64 (x1 + 1))) else (tegulalaw47_torn.j6 k x1 x9 x12 x14 false))
def tegulalaw47_torn.j6 : Nat → Int → Int → List (S33) → Int → Bool → Option (Bool)
  | 0, _, _, _, _, _ => none
  | k + 1, x1, x9, x12, x14, x15 => if x14 < x1 then (if (x12.length : Int) = 1 then (if 0 < (x12.length : Int) then (some (((rd_T33 x12 0).f0) == 3 && (((rd_T33 x12 0).f1) == (wrap64 (x9 + 1)) && (((rd_T33 x12 0).f2) == x14)))) else (none)) else (some false)) else (if x15 = true then (if (x12.length : Int) = 1 then (if 0 < (x12.length : Int) then (if ((rd_T33 x12 0).f1) = x9 then (some (((rd_T33 x12 0).f0) == 3)) else (some false)) else (none)) else (some false)) else (some ((x12.length : Int) == 0)))
def tegulalaw47_torn.l2 : Nat → List Int → Int → Int → Int → List (S33) → Int → Bool → Int → Option (Bool)
  | 0, _, _, _, _, _, _, _, _ => none
  | k + 1, x0, x1, x3, x9, x12, x14, x15, x16 => if x16 < (wrap64 (x3 - 1)) then (if x15 = true then (tegulalaw47_torn.l2 k x0 x1 x3 x9 x12 x14 true (wrap64 (x16 + 1))) else (if 0 ≤ x16 then (if x16 < (x0.length : Int) then (if 0 ≤ x1 then (if x1 < (x0.length : Int) then (tegulalaw47_torn.l2 k x0 x1 x3 x9 x12 x14 ((Int.tmod (rd x0 x16) 4) == (Int.tmod (rd x0 x1) 4)) (wrap64 (x16 + 1))) else (none)) else (none)) else (none)) else (none))) else (tegulalaw47_torn.j6 k x1 x9 x12 x14 x15)
def tegulalaw47_torn.l1 : Nat → List Int → Int → Int → Int → Int → List (S33) → Int → Int → Option (Bool)
  | 0, _, _, _, _, _, _, _, _ => none
  | k + 1, x0, x1, x2, x3, x9, x12, x13, x14 => if x14 < x9 then (if 0 ≤ x14 then (if x14 < (x0.length : Int) then (if (wrap64 (Int.tmod (rd x0 x14) 4)) = x2 then (tegulalaw47_torn.j3 k x0 x1 x3 x9 x12 x13 x14) else (tegulalaw47_torn.l1 k x0 x1 x2 x3 x9 x12 x13 (wrap64 (x14 + 1)))) else (none)) else (none)) else (tegulalaw47_torn.j3 k x0 x1 x3 x9 x12 x13 x14)
end
def tegulalaw47_torn.f (k : Nat) (l0 : List Int) (a1 : Int) (a2 : Int) (a3 : Int) : Option (Bool) := if 0 ≤ a1 then (if a1 < (l0.length : Int) then (if a2 = (wrap64 (Int.tmod (rd l0 a1) 4)) then (tegulalaw47_torn.j0 k l0 a1 a2 a3 (l0.length : Int) true) else (if a3 > 0 then (if 0 ≤ (wrap64 (a3 - 1)) then (if (wrap64 (a3 - 1)) < (l0.length : Int) then (tegulalaw47_torn.j0 k l0 a1 a2 a3 (l0.length : Int) ((wrap64 (Int.tmod (rd l0 (wrap64 (a3 - 1))) 4)) != a2)) else (none)) else (none)) else (tegulalaw47_torn.j0 k l0 a1 a2 a3 (l0.length : Int) false))) else (none)) else (none)
def tegulalaw47_torn.T9 : Bool × List (List Nat × List Nat) := (true, [([], []), ([], []), ([1], [1]), ([0, 2], [0, 2]), ([], []), ([], []), ([], []), ([5, 6], [5, 6]), ([7], [7]), ([8], [8]), ([9], [9]), ([], []), ([11], [11]), ([4, 10, 12, 3], [4, 10, 12]), ([3, 13, 13], [3, 13]), ([14, 14, 0, 1, 2, 3, 4, 5, 6, 7, 8, 9, 10, 11, 12, 13, 14], [0, 14])])
def tegulalaw47_torn.B9 : List Nat := [0, 0, 2, 7, 0, 0, 0, 96, 224, 480, 992, 0, 2048, 8191, 16383, 32767]
theorem tegulalaw47_torn.tab9 : rtab .any (opsOf Try.f26 9) = tegulalaw47_torn.T9 := by kernel_rfl
theorem tegulalaw47_torn.bits9 : waitsOk tegulalaw47_torn.T9.2 tegulalaw47_torn.B9 = true := by kernel_rfl
def tegulalaw47_torn.T22 : Bool × List (List Nat × List Nat) := (true, [([], []), ([0], [0]), ([1], [1]), ([1], [1]), ([2, 3, 1], [1, 2, 3]), ([4, 1], [1, 4]), ([5, 1], [1, 5]), ([1], [1]), ([1], [1]), ([7, 8, 1], [1, 7, 8]), ([9, 1], [1, 9]), ([10, 1], [1, 10]), ([6, 11, 1], [1, 6, 11]), ([1, 12], [1, 12]), ([13, 1, 0, 1, 2, 3, 4, 5, 6, 7, 8, 9, 10, 11, 12, 13], [0, 13])])
def tegulalaw47_torn.B22 : List Nat := [0, 1, 3, 3, 15, 31, 63, 3, 3, 387, 899, 1923, 4095, 8191, 16383]
theorem tegulalaw47_torn.tab22 : rtab .any (opsOf Try.f26 22) = tegulalaw47_torn.T22 := by kernel_rfl
theorem tegulalaw47_torn.bits22 : waitsOk tegulalaw47_torn.T22.2 tegulalaw47_torn.B22 = true := by kernel_rfl
set_option maxHeartbeats 8000000 in
set_option maxRecDepth 100000 in
theorem tegulalaw47_torn.calls (k : Nat) (A0 : Option Addr) (c0 : Nat) (l0 : List Int) (a1 : Int) (a2 : Int) (a3 : Int) (r : Bool) (w : World) (hr0 : Kd.C (Kd.int .u8) w A0 l0.length l0) (hc0 : l0.length ≤ c0) (h : tegulalaw47_torn.f k l0 a1 a2 a3 = some r) :
    Calls Try.prog 26 #[.slice A0 l0.length c0, .int .i64 a1, .int .i64 a2, .int .i64 a3] w fun e w' => e = .returned (.bool r) ∧ Below w.heap.size w w' := by
  have hu39 := Try.underlying39
  have hu33 := Try.underlying33
  have HR0 := Aside0.mk hr0
  have HC0 := Aside0.mk hc0
  clear hr0 hc0
  have HB := Aside0.mk (Below.refl w.heap.size w)
  have H : (if 0 ≤ a1 then (if a1 < (l0.length : Int) then (if a2 = (wrap64 (Int.tmod (rd l0 a1) 4)) then (tegulalaw47_torn.j0 k l0 a1 a2 a3 (l0.length : Int) true) else (if a3 > 0 then (if 0 ≤ (wrap64 (a3 - 1)) then (if (wrap64 (a3 - 1)) < (l0.length : Int) then (tegulalaw47_torn.j0 k l0 a1 a2 a3 (l0.length : Int) ((wrap64 (Int.tmod (rd l0 (wrap64 (a3 - 1))) 4)) != a2)) else (none)) else (none)) else (tegulalaw47_torn.j0 k l0 a1 a2 a3 (l0.length : Int) false))) else (none)) else (none)) = some r := h
  clear h
  have HC5 := Aside0.mk H
  clear H
  go_enter Try.func26, Try.ntmps26
  go_upto_region 2 with (fail)
  go_cut [41] (fun v41 wc => ∃ (kq : Nat) (x41_4 : Bool), v41 = .bool x41_4 ∧ Aside0 (tegulalaw47_torn.j0 kq l0 a1 a2 a3 (l0.length : Int) x41_4 = some r) ∧ Aside0 (kq ≤ k) ∧ Aside0 (Below w.heap.size w wc))
  case first =>
    have H := HC5.out
    clear HC5
    by_cases c6 : 0 ≤ a1
    · rw [if_pos c6] at H
      have c6b0 : decide (0 ≤ a1) = true := decide_eq_true c6
      clear c6
      (first | rw [c6b0] | (simp only [i64_w, i32_w]; rw [c6b0]) | skip)
      by_cases c7 : a1 < (l0.length : Int)
      · rw [if_pos c7] at H
        have c7b0 : decide (a1 < (l0.length : Int)) = true := decide_eq_true c7
        clear c7
        by_cases c8 : a2 = (wrap64 (Int.tmod (rd l0 a1) 4))
        · rw [if_pos c8] at H
          have c8b0 : (a2 == (wrap64 (Int.tmod (rd l0 a1) 4))) = true := beq_iff_eq.mpr c8
          have c8b1 : (a2 != (wrap64 (Int.tmod (rd l0 a1) 4))) = false := bne_eq_false_iff_eq.mpr c8
          clear c8
          have H' := Aside0.mk H
          clear H
          have p290 : 0 ≤ (a1 : Int) := of_decide_eq_true (by first | (with_reducible assumption) | assumption)
          have q290 : a1 < (l0.length : Int) := of_decide_eq_true (by first | (with_reducible assumption) | assumption)
          obtain ⟨ad290, e290, hx290_0⟩ := Kd.at_int HR0.out a1 p290 q290
          cases e290
          replace hx290_0 := (HB.out.cell (World.block_lt_of_cell? w _ hx290_0)).trans hx290_0
          replace p290 := eq_true p290
          replace q290 := eq_true q290
          go_wp2
          go_meet
          case rel => exact ⟨_, (true), (by first | rfl | (simp; done) | (simp [*]; done)), H', ⟨by first | omega | exact Nat.le_refl _⟩, ⟨by repeat (first | (with_reducible first | exact HB.out | apply below_alloc | apply pw_below_drewN | apply below_drew1) | exact HB.out)⟩⟩
        · rw [if_neg c8] at H
          have c8b0 : (a2 == (wrap64 (Int.tmod (rd l0 a1) 4))) = false := beq_eq_false_iff_ne.mpr c8
          have c8b1 : (a2 != (wrap64 (Int.tmod (rd l0 a1) 4))) = true := bne_iff_ne.mpr c8
          by_cases c9 : a3 > 0
          · rw [if_pos c9] at H
            have c9b0 : decide (0 < a3) = true := decide_eq_true c9
            clear c9
            obtain ⟨ji10, hji10⟩ : ∃ j_ : Int, (wrap64 (a3 - 1)) = j_ := ⟨_, rfl⟩
            replace H : (if 0 ≤ (ji10) then (if (ji10) < (l0.length : Int) then (tegulalaw47_torn.j0 k l0 a1 a2 a3 (l0.length : Int) ((wrap64 (Int.tmod (rd l0 (ji10)) 4)) != a2)) else (none)) else (none)) = some r := by first | (rw [hji10] at H; exact H) | (simp only [hji10] at H ⊢; exact H)
            have hji10w : (IntKind.i64.wrap (a3 - 1)) = ji10 := (i64_w _).trans hji10
            by_cases c11 : 0 ≤ (ji10)
            · rw [if_pos c11] at H
              have c11b0 : decide (0 ≤ (ji10)) = true := decide_eq_true c11
              clear c11
              by_cases c12 : (ji10) < (l0.length : Int)
              · rw [if_pos c12] at H
                have c12b0 : decide ((ji10) < (l0.length : Int)) = true := decide_eq_true c12
                clear c12
                have H' := Aside0.mk H
                clear H
                have p290 : 0 ≤ (a1 : Int) := of_decide_eq_true (by first | (with_reducible assumption) | assumption)
                have q290 : a1 < (l0.length : Int) := of_decide_eq_true (by first | (with_reducible assumption) | assumption)
                obtain ⟨ad290, e290, hx290_0⟩ := Kd.at_int HR0.out a1 p290 q290
                cases e290
                replace hx290_0 := (HB.out.cell (World.block_lt_of_cell? w _ hx290_0)).trans hx290_0
                replace p290 := eq_true p290
                replace q290 := eq_true q290
                have p291 : 0 ≤ ((ji10) : Int) := of_decide_eq_true (by first | (with_reducible assumption) | assumption)
                have q291 : (ji10) < (l0.length : Int) := of_decide_eq_true (by first | (with_reducible assumption) | assumption)
                obtain ⟨ad291, e291, hx291_0⟩ := Kd.at_int HR0.out (ji10) p291 q291
                obtain rfl : ad290 = ad291 := (by injection e291)
                replace hx291_0 := (HB.out.cell (World.block_lt_of_cell? w _ hx291_0)).trans hx291_0
                replace p291 := eq_true p291
                replace q291 := eq_true q291
                go_wp2
                go_meet
                case rel => exact ⟨_, (((wrap64 (Int.tmod (rd l0 (ji10)) 4)) != a2)), (by first | rfl | (simp; done) | (simp only [← hji10] <;> (first | rfl | simp)) | (simp [*]; done)), H', ⟨by first | omega | exact Nat.le_refl _⟩, ⟨by repeat (first | (with_reducible first | exact HB.out | apply below_alloc | apply pw_below_drewN | apply below_drew1) | exact HB.out)⟩⟩
              · rw [if_neg c12] at H
                exact absurd H (by simp)
            · rw [if_neg c11] at H
              exact absurd H (by simp)
          · rw [if_neg c9] at H
            have c9b0 : decide (0 < a3) = false := decide_eq_false c9
            clear c9
            have H' := Aside0.mk H
            clear H
            have p290 : 0 ≤ (a1 : Int) := of_decide_eq_true (by first | (with_reducible assumption) | assumption)
            have q290 : a1 < (l0.length : Int) := of_decide_eq_true (by first | (with_reducible assumption) | assumption)
            obtain ⟨ad290, e290, hx290_0⟩ := Kd.at_int HR0.out a1 p290 q290
            cases e290
            replace hx290_0 := (HB.out.cell (World.block_lt_of_cell? w _ hx290_0)).trans hx290_0
            replace p290 := eq_true p290
            replace q290 := eq_true q290
            go_wp2
            go_meet
            case rel => exact ⟨_, (false), (by first | rfl | (simp; done) | (simp [*]; done)), H', ⟨by first | omega | exact Nat.le_refl _⟩, ⟨by repeat (first | (with_reducible first | exact HB.out | apply below_alloc | apply pw_below_drewN | apply below_drew1) | exact HB.out)⟩⟩
      · rw [if_neg c7] at H
        exact absurd H (by simp)
    · rw [if_neg c6] at H
      exact absurd H (by simp)
  case rest =>
    clear HC5
    try clear c1
    try clear c2
    try clear p2
    try clear q2
    try clear hx2
    try clear c6
    try clear c6b0
    try clear p6
    try clear c7
    try clear c7b0
    try clear c8
    try clear c8b0
    try clear c8b1
    try clear c9
    try clear c9b0
    try clear c11
    try clear c11b0
    try clear c12
    try clear c12b0
    try clear hx290_0
    try clear hx291_0
    try clear p290
    try clear p291
    try clear q290
    try clear q291
    obtain ⟨kq, x41_4, rfl, HA, HJ4, HB⟩ := hcut
    cases kq with
    | zero => exact absurd HA.out (by simp [tegulalaw47_torn.j0])
    | succ kj4 =>
      have H := HA.out
      clear HA
      simp only [tegulalaw47_torn.j0] at H
      by_cases c13 : x41_4 = true
      · subst c13
        have H1 : (some true) = some r := by rw [if_pos rfl] at H; exact H
        clear H
        have H := H1
        clear H1
        obtain rfl := Option.some.inj H
        go_wp2
        go_ret
        exact ⟨by first | rfl | (simp [errW_none, errW_some] <;> rfl) | (simp [*, errW_none, errW_some] <;> rfl), by repeat (first | (with_reducible first | exact HB.out | apply below_alloc | apply pw_below_drewN | apply below_drew1) | exact HB.out)⟩
      · replace c13 := Bool.eq_false_iff.mpr c13
        subst c13
        have H1 : (tegulalaw47_torn.l0 kj4 l0 a1 a2 a3 (l0.length : Int) ([] : List (S39)) 0) = some r := by rw [if_neg (show ¬ (false = true) by decide)] at H; exact H
        clear H
        have H := H1
        clear H1
        have H' := Aside0.mk H
        clear H
        go_wp2
        go_loopg [10, 11] kj4 (fun kq v10 v11 w' => ∃ (x10_2 : List (S39)) (x11_2 : Int), v11 = .int .i64 x11_2 ∧ Aside0 (tegulalaw47_torn.l0 kq l0 a1 a2 a3 (l0.length : Int) x10_2 x11_2 = some r) ∧ Aside0 (kq ≤ kj4) ∧ Aside0 (Kd.R k39 39 w' w.heap.size (fun _ => True) v10 x10_2) ∧ Aside0 (Below w.heap.size w w'))
        case atStart => exact ⟨(([] : List (S39))), (0), (by first | rfl | (simp; done) | (simp [*]; done)), H', ⟨Nat.le_refl _⟩, ⟨by first | exact Kd.R_nil _ _ _ _ _ | exact Kd.N_nil _ _ _ _ _ | exact Kd.V_nil _ _ _ _ _ | exact Kd.Q_nil _ _ _ _ _ | exact Kd.S_nil _ _ _ _ _⟩, ⟨by repeat (first | (with_reducible first | exact HB.out | apply below_alloc | apply pw_below_drewN | apply below_drew1) | exact HB.out)⟩⟩
        case round =>
          clear H'
          try clear c1
          try clear c2
          try clear p2
          try clear q2
          try clear hx2
          try clear c6
          try clear c6b0
          try clear p6
          try clear c7
          try clear c7b0
          try clear c8
          try clear c8b0
          try clear c8b1
          try clear c9
          try clear c9b0
          try clear c11
          try clear c11b0
          try clear c12
          try clear c12b0
          try clear c13
          try clear hx290_0
          try clear hx291_0
          try clear p2
          try clear p290
          try clear p291
          try clear p6
          try clear q2
          try clear q290
          try clear q291
          obtain ⟨x10_2, x11_2, rfl, HA, HK2, HO_10, HB⟩ := hrel
          cases gk with
          | zero => exact absurd HA.out (by simp [tegulalaw47_torn.l0])
          | succ k2 =>
            have H := HA.out
            clear HA
            simp only [tegulalaw47_torn.l0] at H
            by_cases c14 : x11_2 < (l0.length : Int)
            · rw [if_pos c14] at H
              have c14b0 : decide (x11_2 < (l0.length : Int)) = true := decide_eq_true c14
              clear c14
              by_cases c15 : 0 ≤ x11_2
              · rw [if_pos c15] at H
                have c15b0 : decide (0 ≤ x11_2) = true := decide_eq_true c15
                clear c15
                by_cases c16 : x11_2 < (l0.length : Int)
                · rw [if_pos c16] at H
                  have c16b0 : decide (x11_2 < (l0.length : Int)) = true := decide_eq_true c16
                  clear c16
                  replace H := Option.bind_eq_some_iff.mp H
                  obtain ⟨t293, A170, H⟩ := H
                  replace H : (if x10_2.length + t293.length < 2932031007402 then (tegulalaw47_torn.l0 k2 l0 a1 a2 a3 (l0.length : Int) (x10_2 ++ t293) (wrap64 (x11_2 + 1))) else (none)) = some r := H
                  have A17 := Aside0.mk A170
                  clear A170
                  by_cases c18 : x10_2.length + t293.length < 2932031007402
                  · rw [if_pos c18] at H
                    have LMc18 := Aside0.mk c18
                    clear c18
                    obtain ⟨y296, hy296⟩ : ∃ y_ : List (S39), y_ = (x10_2 ++ t293) := ⟨_, rfl⟩
                    replace H : (tegulalaw47_torn.l0 k2 l0 a1 a2 a3 (l0.length : Int) y296 (wrap64 (x11_2 + 1))) = some r := by first | (rw [hy296]; with_reducible exact H) | (have H2_ := (Option.bind_some _ _).symm.trans H; rw [hy296]; with_reducible exact H2_) | (have H2_ := (Option.bind_some _ _).symm.trans H; with_reducible exact H2_) | with_reducible exact H | (rw [hy296]; exact H) | exact H
                    have Ny296 := Aside0.mk hy296
                    clear hy296
                    have H' := Aside0.mk H
                    clear H
                    have p292 : 0 ≤ (x11_2 : Int) := of_decide_eq_true (by first | (with_reducible assumption) | assumption)
                    have q292 : x11_2 < (l0.length : Int) := of_decide_eq_true (by first | (with_reducible assumption) | assumption)
                    obtain ⟨ad292, e292, hx292_0⟩ := Kd.at_int HR0.out x11_2 p292 q292
                    cases e292
                    replace hx292_0 := (HB.out.cell (World.block_lt_of_cell? w _ hx292_0)).trans hx292_0
                    replace p292 := eq_true p292
                    replace q292 := eq_true q292
                    go_wp2_with (first | ((with_reducible refine gate_callee (f := 22) rfl ?_); refine goesL_ (some 57) rfl rfl Try.func22 (by kernel_rfl) rfl #[.int .i64 x11_2, .int .i64 (wrap64 (Int.tmod (rd l0 x11_2) 4)), .int .i64 (wrap64 (x11_2 + 1))] rfl (by (try simp only [List.map_toArray, List.map_cons, List.map_nil]); first | done | rfl | (simp only [List.length_drop, List.length_take]; rfl)) ?_; (with_reducible refine (tegulalaw47_write.calls x11_2 (wrap64 (Int.tmod (rd l0 x11_2) 4)) (wrap64 (x11_2 + 1)) t293 _ A17.out).mono ?_); rintro e w19 ⟨v294, rfl, ho0, hb⟩; refine ⟨_, rfl, ?_⟩; have n0_ := Aside0.mk (Kd.R_elder' (by (with_reducible repeat (first | apply Kd.R_alloc | apply Kd.R_drewN | apply Kd.R_drew)); exact HO_10.out) (Kd.R_base ho0) hb); have n1_ := Aside0.mk (Kd.R_lower (Kd.R_new' ho0 (Kd.R_lt (by (with_reducible repeat (first | apply Kd.R_alloc | apply Kd.R_drewN | apply Kd.R_drew)); exact HO_10.out))) (below_size (by repeat (first | (with_reducible first | exact HB.out | apply below_alloc | apply pw_below_drewN | apply below_drew1) | exact HB.out)))); have n2_ := Aside0.mk (below_step (by repeat (first | (with_reducible first | exact HB.out | apply below_alloc | apply pw_below_drewN | apply below_drew1) | exact HB.out)) hb); clear HO_10; clear HB; have HO_10 := n0_; have HO295 := n1_; have HB := n2_; clear n0_ n1_ n2_; (try clear hb); (try clear hb2); (try clear hk); (try clear hi); (try clear ho0); obtain ⟨Ao21, co21, eo21⟩ := Kd.R_slice HO295.out; subst eo21) | ((with_reducible refine gate_builtin (b := .append) (xs := #[.tmp 47, .tmp 57]) rfl ?_); (try (refine gate_guard (by rfl) ?_; dsimp only)); at_builtin; refine Kd.R_append_rows k39 (w0 := w) w.heap.size rfl (.tmp 47) (.tmp 57) 22 39 (.agg #[(.int .i64 0), (.int .i64 0), (.bool false), (.int .i64 0), (.int .i64 0), (.bool false)]) 48 rfl Try.underlying22 info39 rfl (by decide) (by omega) u10 x10_2 t293 _ _ _ (fun k_ => some k_ ≠ (.slice Ao21 t293.length co21 : Value).ownBlock) (fun _ => False) rfl rfl ?aO ?aR (fun _ _ h => h) (fun _ h => h.elim) ?aF ?aB ?aS ?aL ?_; (case aR => repeat (first | exact (Kd.R_reads' HO295.out).2.2 | (with_reducible refine Kd.C_alloc ?_ _) | (with_reducible refine Kd.C_drewN ?_ _) | (with_reducible refine Kd.C_drew ?_))); (case aB => exact (by repeat (first | (with_reducible first | exact HB.out | apply below_alloc | apply pw_below_drewN | apply below_drew1) | exact HB.out))); (case aF => exact (fun k_ hk => Kd.fresh' (Kd.R_lt (by (with_reducible repeat (first | apply Kd.R_alloc | apply Kd.R_drewN | apply Kd.R_drew)); exact HO295.out)) k_ hk)); (case aO => exact (by (with_reducible repeat (first | apply Kd.R_alloc | apply Kd.R_drewN | apply Kd.R_drew)); exact Kd.R_mono HO_10.out (fun _ hk => hk.2))); (case aS => exact (below_size (by repeat (first | (with_reducible first | exact HB.out | apply below_alloc | apply pw_below_drewN | apply below_drew1) | exact HB.out)))); (case aL => have := LMc18.out; omega); intro v297 w20 ho hb hg hat; rw [← Ny296.out] at ho; have n0_ := Aside0.mk (Kd.R_after (ok := (fun _ => True)) (by (with_reducible repeat (first | apply Kd.R_alloc | apply Kd.R_drewN | apply Kd.R_drew)); exact HO295.out) hg hat); have n1_ := Aside0.mk (hb); have n2_ := Aside0.mk (ho); clear HO295; clear HB; clear HO_10; have HO295 := n0_; have HB := n1_; have HO298 := n2_; clear n0_ n1_ n2_; clear ho hb hg hat))
                    go_roundg k2
                    case measure => have := HJ4.out; have := HK2.out; omega
                    case rel => exact ⟨(y296), (wrap64 (x11_2 + 1)), (by first | rfl | (simp; done) | (simp [*]; done)), H', ⟨by have := HJ4.out; have := HK2.out; omega⟩, ⟨by (with_reducible repeat (first | apply Kd.R_alloc | apply Kd.R_drewN | apply Kd.R_drew)); exact Kd.R_mono HO298.out (fun _ hk => trivial)⟩, ⟨by repeat (first | (with_reducible first | exact HB.out | apply below_alloc | apply pw_below_drewN | apply below_drew1) | exact HB.out)⟩⟩
                  · rw [if_neg c18] at H
                    exact absurd H (by simp)
                · rw [if_neg c16] at H
                  exact absurd H (by simp)
              · rw [if_neg c15] at H
                exact absurd H (by simp)
            · rw [if_neg c14] at H
              have c14b0 : decide (x11_2 < (l0.length : Int)) = false := decide_eq_false c14
              clear c14
              by_cases c22 : x10_2.length < 2932031007402
              · rw [if_pos c22] at H
                have LMc22 := Aside0.mk c22
                clear c22
                obtain ⟨y299, hy299⟩ : ∃ y_ : List (S39), y_ = (x10_2 ++ [(⟨3, 0, false, 0, 0, false⟩ : S39)]) := ⟨_, rfl⟩
                replace H : (if 0 ≤ a1 then (if a1 < (l0.length : Int) then ((tegulalaw47_read.f (l0.length : Int) (wrap64 (Int.tmod (rd l0 a1) 4)) (wrap64 (a1 + 1))).bind fun t303 => (if y299.length + t303.length < 2932031007402 then ((some (y299 ++ t303 : List (S39))).bind fun y306 => ((tegulalaw47_read.f (wrap64 ((l0.length : Int) + 1)) a2 a3).bind fun t309 => (if y306.length + t309.length < 2932031007402 then ((durable_Check.f (y306 ++ t309)).bind fun bt315 => (tegulalaw47_torn.l1 k2 l0 a1 a2 a3 (l0.length : Int) bt315.1 bt315.2 a3)) else (none)))) else (none))) else (none)) else (none)) = some r := by first | (rw [hy299]; with_reducible exact H) | (have H2_ := (Option.bind_some _ _).symm.trans H; rw [hy299]; with_reducible exact H2_) | (have H2_ := (Option.bind_some _ _).symm.trans H; with_reducible exact H2_) | with_reducible exact H | (rw [hy299]; exact H) | exact H
                have Ny299 := Aside0.mk hy299
                clear hy299
                by_cases c23 : 0 ≤ a1
                · rw [if_pos c23] at H
                  have c23b0 : decide (0 ≤ a1) = true := decide_eq_true c23
                  clear c23
                  by_cases c24 : a1 < (l0.length : Int)
                  · rw [if_pos c24] at H
                    have c24b0 : decide (a1 < (l0.length : Int)) = true := decide_eq_true c24
                    clear c24
                    replace H := Option.bind_eq_some_iff.mp H
                    obtain ⟨t303, A250, H⟩ := H
                    replace H : (if y299.length + t303.length < 2932031007402 then ((some (y299 ++ t303 : List (S39))).bind fun y306 => ((tegulalaw47_read.f (wrap64 ((l0.length : Int) + 1)) a2 a3).bind fun t309 => (if y306.length + t309.length < 2932031007402 then ((durable_Check.f (y306 ++ t309)).bind fun bt315 => (tegulalaw47_torn.l1 k2 l0 a1 a2 a3 (l0.length : Int) bt315.1 bt315.2 a3)) else (none)))) else (none)) = some r := H
                    have A25 := Aside0.mk A250
                    clear A250
                    by_cases c26 : y299.length + t303.length < 2932031007402
                    · rw [if_pos c26] at H
                      have LMc26 := Aside0.mk c26
                      clear c26
                      obtain ⟨y306, hy306⟩ : ∃ y_ : List (S39), y_ = (y299 ++ t303) := ⟨_, rfl⟩
                      replace H : ((tegulalaw47_read.f (wrap64 ((l0.length : Int) + 1)) a2 a3).bind fun t309 => (if y306.length + t309.length < 2932031007402 then ((durable_Check.f (y306 ++ t309)).bind fun bt315 => (tegulalaw47_torn.l1 k2 l0 a1 a2 a3 (l0.length : Int) bt315.1 bt315.2 a3)) else (none))) = some r := by first | (rw [hy306]; with_reducible exact H) | (have H2_ := (Option.bind_some _ _).symm.trans H; rw [hy306]; with_reducible exact H2_) | (have H2_ := (Option.bind_some _ _).symm.trans H; with_reducible exact H2_) | with_reducible exact H | (rw [hy306]; exact H) | exact H
                      have Ny306 := Aside0.mk hy306
                      clear hy306
                      replace H := Option.bind_eq_some_iff.mp H
                      obtain ⟨t309, A270, H⟩ := H
                      replace H : (if y306.length + t309.length < 2932031007402 then ((durable_Check.f (y306 ++ t309)).bind fun bt315 => (tegulalaw47_torn.l1 k2 l0 a1 a2 a3 (l0.length : Int) bt315.1 bt315.2 a3)) else (none)) = some r := H
                      have A27 := Aside0.mk A270
                      clear A270
                      by_cases c28 : y306.length + t309.length < 2932031007402
                      · rw [if_pos c28] at H
                        have LMc28 := Aside0.mk c28
                        clear c28
                        obtain ⟨y312, hy312⟩ : ∃ y_ : List (S39), y_ = (y306 ++ t309) := ⟨_, rfl⟩
                        replace H : ((durable_Check.f y312).bind fun bt315 => (tegulalaw47_torn.l1 k2 l0 a1 a2 a3 (l0.length : Int) bt315.1 bt315.2 a3)) = some r := by first | (rw [hy312]; with_reducible exact H) | (have H2_ := (Option.bind_some _ _).symm.trans H; rw [hy312]; with_reducible exact H2_) | (have H2_ := (Option.bind_some _ _).symm.trans H; with_reducible exact H2_) | with_reducible exact H | (rw [hy312]; exact H) | exact H
                        have Ny312 := Aside0.mk hy312
                        clear hy312
                        replace H := Option.bind_eq_some_iff.mp H
                        obtain ⟨⟨t315, t316⟩, A290, H⟩ := H
                        replace H : (tegulalaw47_torn.l1 k2 l0 a1 a2 a3 (l0.length : Int) t315 t316 a3) = some r := H
                        have A29 := Aside0.mk A290
                        clear A290
                        have HC30 := Aside0.mk H
                        clear H
                        try go_wp2
                        have n0_ := Aside0.mk (Kd.R_drew HO_10.out)
                        have n1_ := Aside0.mk (below_drew1 HB.out)
                        clear HO_10
                        clear HB
                        have HO_10 := n0_
                        have HB := n1_
                        clear n0_ n1_
                        have p302 : 0 ≤ (a1 : Int) := of_decide_eq_true (by first | (with_reducible assumption) | assumption)
                        have q302 : a1 < (l0.length : Int) := of_decide_eq_true (by first | (with_reducible assumption) | assumption)
                        obtain ⟨ad302, e302, hx302_0⟩ := Kd.at_int HR0.out a1 p302 q302
                        have hw302_0 := hx302_0
                        cases e302
                        replace hx302_0 := (HB.out.cell (World.block_lt_of_cell? w _ hx302_0)).trans hx302_0
                        replace p302 := eq_true p302
                        replace q302 := eq_true q302
                        refine start_ (n := 16) (S := fun w' => w'.cell? (ad302.add (a1).toNat) = some (.int .u8 (rd l0 a1))) (ds := []) #[false, false, false, false, false, false, false, false, false, false, false, false, false, false, false, false] (by kernel_rfl) rfl rfl (((HB.out.cell (World.block_lt_of_cell? w _ hw302_0)).trans hw302_0)) (fun hHeld => ?_); refine with_tabW tegulalaw47_torn.tab9 tegulalaw47_torn.bits9 (fun HT_ HW_ => ?_)
                        generalize wr.drew = w31 at HO_10 HB hx302_0 hHeld ⊢
                        refine pure_ (i := 0) (N := some 59) (v := ?_) (a' := ?_) #[true, false, false, false, false, false, false, false, false, false, false, false, false, false, false, false] rfl rfl (any_of HT_.out (by kernel_rfl)) (fun _ _ _ h => h) (Or.inl ⟨by rfl, ?_⟩) ?_ ?_
                        rotate_left
                        · intro w'
                          go_simp
                          with_reducible rfl
                        rotate_left
                        · simp only [Act.put, List.setIfInBounds_toArray, List.set_cons_zero, List.set_cons_succ, i64_w, i32_w]
                          rfl
                        refine pure_ (i := 1) (N := some 60) (v := ?_) (a' := ?_) #[true, true, false, false, false, false, false, false, false, false, false, false, false, false, false, false] rfl rfl (any_of HT_.out (by kernel_rfl)) (fun _ _ _ h => h) (Or.inl ⟨by rfl, ?_⟩) ?_ ?_
                        rotate_left
                        · intro w'
                          go_simp
                          with_reducible rfl
                        rotate_left
                        · simp only [Act.put, List.setIfInBounds_toArray, List.set_cons_zero, List.set_cons_succ, i64_w, i32_w]
                          rfl
                        refine pure_ (i := 4) (N := some 63) (v := ?_) (a' := ?_) #[true, true, false, false, true, false, false, false, false, false, false, false, false, false, false, false] rfl rfl (any_of HT_.out (by kernel_rfl)) (fun _ _ _ h => h) (Or.inl ⟨by rfl, ?_⟩) ?_ ?_
                        rotate_left
                        · intro w'
                          go_simp
                          with_reducible rfl
                        rotate_left
                        · simp only [Act.put, List.setIfInBounds_toArray, List.set_cons_zero, List.set_cons_succ, i64_w, i32_w]
                          rfl
                        refine pure_ (i := 5) (N := some 64) (v := ?_) (a' := ?_) #[true, true, false, false, true, true, false, false, false, false, false, false, false, false, false, false] rfl rfl (any_of HT_.out (by kernel_rfl)) (fun _ _ _ h => h) (Or.inl ⟨by rfl, ?_⟩) ?_ ?_
                        rotate_left
                        · intro w'
                          go_simp
                          with_reducible rfl
                        rotate_left
                        · simp only [Act.put, List.setIfInBounds_toArray, List.set_cons_zero, List.set_cons_succ, i64_w, i32_w]
                          rfl
                        refine pure_ (i := 6) (N := some 65) (v := ?_) (a' := ?_) #[true, true, false, false, true, true, true, false, false, false, false, false, false, false, false, false] rfl rfl (any_of HT_.out (by kernel_rfl)) (fun _ _ _ h => h) (Or.inl ⟨by rfl, ?_⟩) ?_ ?_
                        rotate_left
                        · intro w'
                          go_simp
                          with_reducible rfl
                        rotate_left
                        · simp only [Act.put, List.setIfInBounds_toArray, List.set_cons_zero, List.set_cons_succ, i64_w, i32_w]
                          rfl
                        refine pure_ (i := 7) (N := some 66) (v := ?_) (a' := ?_) #[true, true, false, false, true, true, true, true, false, false, false, false, false, false, false, false] rfl rfl (any_of HT_.out (by kernel_rfl)) (fun _ _ _ h => h) (Or.inl ⟨by rfl, ?_⟩) ?_ ?_
                        rotate_left
                        · intro w'
                          go_simp
                          with_reducible rfl
                        rotate_left
                        · simp only [Act.put, List.setIfInBounds_toArray, List.set_cons_zero, List.set_cons_succ, i64_w, i32_w]
                          rfl
                        refine pure_ (i := 11) (N := some 70) (v := ?_) (a' := ?_) #[true, true, false, false, true, true, true, true, false, false, false, true, false, false, false, false] rfl rfl (any_of HT_.out (by kernel_rfl)) (fun _ _ _ h => h) (Or.inl ⟨by rfl, ?_⟩) ?_ ?_
                        rotate_left
                        · intro w'
                          go_simp
                          with_reducible rfl
                        rotate_left
                        · simp only [Act.put, List.setIfInBounds_toArray, List.set_cons_zero, List.set_cons_succ, i64_w, i32_w]
                          rfl
                        refine pure_ (i := 12) (N := some 71) (v := ?_) (a' := ?_) #[true, true, false, false, true, true, true, true, false, false, false, true, true, false, false, false] rfl rfl (any_of HT_.out (by kernel_rfl)) (fun _ _ _ h => h) (Or.inl ⟨by rfl, ?_⟩) ?_ ?_
                        rotate_left
                        · intro w'
                          go_simp
                          with_reducible rfl
                        rotate_left
                        · simp only [Act.put, List.setIfInBounds_toArray, List.set_cons_zero, List.set_cons_succ, i64_w, i32_w]
                          rfl
                        refine take_ (i := 8) (N := some 67) (v := ?_) (a' := ?_) #[true, true, false, false, true, true, true, true, true, false, false, true, true, false, false, false] rfl rfl (take_ofW HT_.out HW_.out (by kernel_rfl)) (fun _ _ _ h => h) (Or.inl ⟨by rfl, ?_⟩) hHeld ?_ ?_
                        rotate_left
                        · intro w' s0
                          go_simp
                          with_reducible rfl
                        rotate_left
                        · simp only [Act.put, List.setIfInBounds_toArray, List.set_cons_zero, List.set_cons_succ, i64_w, i32_w]
                          rfl
                        refine pure_ (i := 9) (N := some 68) (v := ?_) (a' := ?_) #[true, true, false, false, true, true, true, true, true, true, false, true, true, false, false, false] rfl rfl (any_of HT_.out (by kernel_rfl)) (fun _ _ _ h => h) (Or.inl ⟨by rfl, ?_⟩) ?_ ?_
                        rotate_left
                        · intro w'
                          go_simp
                          with_reducible rfl
                        rotate_left
                        · simp only [Act.put, List.setIfInBounds_toArray, List.set_cons_zero, List.set_cons_succ, i64_w, i32_w]
                          rfl
                        refine pure_ (i := 10) (N := some 69) (v := ?_) (a' := ?_) #[true, true, false, false, true, true, true, true, true, true, true, true, true, false, false, false] rfl rfl (any_of HT_.out (by kernel_rfl)) (fun _ _ _ h => h) (Or.inl ⟨by rfl, ?_⟩) ?_ ?_
                        rotate_left
                        · intro w'
                          go_simp
                          with_reducible rfl
                        rotate_left
                        · simp only [Act.put, List.setIfInBounds_toArray, List.set_cons_zero, List.set_cons_succ, i64_w, i32_w]
                          rfl
                        refine one_ (i := 2) (N := some 61) #[true, true, true, false, true, true, true, true, true, true, true, true, true, false, false, false] rfl rfl (one_of HT_.out (by kernel_rfl)) (by decide) (fun K hK => ?_)
                        refine value_ (w1 := ?_) (v := ?_) (by rfl) rfl ?_ ?_
                        rotate_left 2
                        · go_simp
                          constructor
                          · rfl
                          · rfl
                        refine hK.out _ _ ((World.cell?_alloc_lt _ _ _ (World.block_lt_of_cell? _ _ (((HB.out.cell (World.block_lt_of_cell? w _ hw302_0)).trans hw302_0)))).trans (((HB.out.cell (World.block_lt_of_cell? w _ hw302_0)).trans hw302_0))) (fun hHeld => ?_)
                        clear hK K
                        refine norm_ (a' := ?_) ?_ ?_
                        rotate_left
                        · show Act.put _ (some 61) _ = _
                          simp only [Act.put, List.setIfInBounds_toArray, List.set_cons_zero, List.set_cons_succ, i64_w, i32_w]
                          rfl
                        refine one_ (i := 3) (N := some 62) #[true, true, true, true, true, true, true, true, true, true, true, true, true, false, false, false] rfl rfl (one_of HT_.out (by kernel_rfl)) (by decide) (fun K hK => ?_)
                        refine Kd.R_append_step k39 (w0 := w) w.heap.size (by rfl) (.tmp 59) (.tmp 61) 22 39 (.agg #[(.int .i64 0), (.int .i64 0), (.bool false), (.int .i64 0), (.int .i64 0), (.bool false)]) 48 rfl Try.underlying22 info39 rfl (by decide) (by omega) u10 x10_2 (⟨3, 0, false, 0, 0, false⟩ : S39) [.int .i64 3, .int .i64 0, .bool false, .int .i64 0, .int .i64 0, .bool false] (fun _ => True) (fun _ => False) rfl rfl ?aP (fun _ hk => hk.elim) ?aF ?aO ?aB ?aS ?aL ?_
                        (case aP => exact k39_mkM _ _ _ (⟨3, 0, false, 0, 0, false⟩ : S39))
                        (case aB => exact (by repeat (first | (with_reducible first | exact HB.out | apply below_alloc | apply pw_below_drewN | apply below_drew1) | exact HB.out)))
                        (case aF => exact (fun _ _ => trivial))
                        (case aO => exact (by (with_reducible repeat (first | apply Kd.R_alloc | apply Kd.R_drewN | apply Kd.R_drew)); exact HO_10.out))
                        (case aS => exact (below_size (by repeat (first | (with_reducible first | exact HB.out | apply below_alloc | apply pw_below_drewN | apply below_drew1) | exact HB.out))))
                        (case aL => have := LMc22.out; omega)
                        intro v300 w32 ho hb hg hat
                        rw [← Ny299.out] at ho
                        have n0_ := Aside0.mk (hb)
                        have n1_ := Aside0.mk (ho)
                        clear HB
                        clear HO_10
                        have HB := n0_
                        have HO301 := n1_
                        clear n0_ n1_
                        clear ho hb hg hat
                        refine hK.out _ _ (((HB.out.cell (World.block_lt_of_cell? w _ hw302_0)).trans hw302_0)) (fun hHeld => ?_)
                        clear hK K
                        refine norm_ (a' := ?_) ?_ ?_
                        rotate_left
                        · show Act.put _ (some 62) _ = _
                          simp only [Act.put, List.setIfInBounds_toArray, List.set_cons_zero, List.set_cons_succ, i64_w, i32_w]
                          rfl
                        refine one_ (i := 13) (N := some 72) #[true, true, true, true, true, true, true, true, true, true, true, true, true, true, false, false] rfl rfl (one_of HT_.out (by kernel_rfl)) (by decide) (fun K hK => ?_)
                        refine goes_ Try.func23 (by kernel_rfl) rfl #[.int .i64 (l0.length : Int), .int .i64 (wrap64 (Int.tmod (rd l0 a1) 4)), .int .i64 (wrap64 (a1 + 1))] (by rfl) rfl rfl (by (try simp only [List.map_toArray, List.map_cons, List.map_nil]); first | done | rfl | (simp only [List.length_drop, List.length_take]; rfl)) ?_
                        with_reducible refine (tegulalaw47_read.calls (l0.length : Int) (wrap64 (Int.tmod (rd l0 a1) 4)) (wrap64 (a1 + 1)) t303 _ A25.out).mono ?_
                        rintro e w33 ⟨v304, rfl, ho0, hb⟩
                        refine ⟨_, rfl, ?_⟩
                        have n0_ := Aside0.mk (Kd.R_elder' (by (with_reducible repeat (first | apply Kd.R_alloc | apply Kd.R_drewN | apply Kd.R_drew)); exact HO301.out) (Kd.R_base ho0) hb)
                        have n1_ := Aside0.mk (Kd.R_lower (Kd.R_new' ho0 (Kd.R_lt (by (with_reducible repeat (first | apply Kd.R_alloc | apply Kd.R_drewN | apply Kd.R_drew)); exact HO301.out))) (below_size (by repeat (first | (with_reducible first | exact HB.out | apply below_alloc | apply pw_below_drewN | apply below_drew1) | exact HB.out))))
                        have n2_ := Aside0.mk (below_step (by repeat (first | (with_reducible first | exact HB.out | apply below_alloc | apply pw_below_drewN | apply below_drew1) | exact HB.out)) hb)
                        clear HO301
                        clear HB
                        have HO301 := n0_
                        have HO305 := n1_
                        have HB := n2_
                        clear n0_ n1_ n2_
                        (try clear hb)
                        (try clear hb2)
                        (try clear hk)
                        (try clear hi)
                        (try clear ho0)
                        obtain ⟨Ao35, co35, eo35⟩ := Kd.R_slice HO305.out
                        (first | subst eo35 | (injection eo35 with f1_ f2_ f3_; have f4_ := f1_.symm; have f5_ := f3_.symm; clear f1_ f2_ f3_; subst f4_; subst f5_))
                        refine hK.out _ _ (((HB.out.cell (World.block_lt_of_cell? w _ hw302_0)).trans hw302_0)) (fun hHeld => ?_)
                        clear hK K
                        refine norm_ (a' := ?_) ?_ ?_
                        rotate_left
                        · show Act.put _ (some 72) _ = _
                          simp only [Act.put, List.setIfInBounds_toArray, List.set_cons_zero, List.set_cons_succ, i64_w, i32_w]
                          rfl
                        refine one_ (i := 14) (N := some 73) #[true, true, true, true, true, true, true, true, true, true, true, true, true, true, true, false] rfl rfl (one_of HT_.out (by kernel_rfl)) (by decide) (fun K hK => ?_)
                        refine Kd.R_append_rows_step k39 (w0 := w) w.heap.size (by rfl) (.tmp 62) (.tmp 72) 22 39 (.agg #[(.int .i64 0), (.int .i64 0), (.bool false), (.int .i64 0), (.int .i64 0), (.bool false)]) 48 rfl Try.underlying22 info39 rfl (by decide) (by omega) v300 y299 t303 _ _ _ (fun k_ => some k_ ≠ (.slice Ao35 t303.length co35 : Value).ownBlock) (fun _ => False) rfl rfl ?aO ?aR (fun _ _ h => h) (fun _ h => h.elim) ?aF ?aB ?aS ?aL ?_
                        (case aR => repeat (first | exact (Kd.R_reads' HO305.out).2.2 | (with_reducible refine Kd.C_alloc ?_ _) | (with_reducible refine Kd.C_drewN ?_ _) | (with_reducible refine Kd.C_drew ?_)))
                        (case aB => exact (by repeat (first | (with_reducible first | exact HB.out | apply below_alloc | apply pw_below_drewN | apply below_drew1) | exact HB.out)))
                        (case aF => exact (fun k_ hk => Kd.fresh' (Kd.R_lt (by (with_reducible repeat (first | apply Kd.R_alloc | apply Kd.R_drewN | apply Kd.R_drew)); exact HO305.out)) k_ hk))
                        (case aO => exact (by (with_reducible repeat (first | apply Kd.R_alloc | apply Kd.R_drewN | apply Kd.R_drew)); exact Kd.R_mono HO301.out (fun _ hk => hk.2)))
                        (case aS => exact (below_size (by repeat (first | (with_reducible first | exact HB.out | apply below_alloc | apply pw_below_drewN | apply below_drew1) | exact HB.out))))
                        (case aL => have := LMc26.out; omega)
                        intro v307 w34 ho hb hg hat
                        rw [← Ny306.out] at ho
                        have n0_ := Aside0.mk (Kd.R_after (ok := (fun _ => True)) (by (with_reducible repeat (first | apply Kd.R_alloc | apply Kd.R_drewN | apply Kd.R_drew)); exact HO305.out) hg hat)
                        have n1_ := Aside0.mk (hb)
                        have n2_ := Aside0.mk (ho)
                        clear HO305
                        clear HB
                        clear HO301
                        have HO305 := n0_
                        have HB := n1_
                        have HO308 := n2_
                        clear n0_ n1_ n2_
                        clear ho hb hg hat
                        refine hK.out _ _ (((HB.out.cell (World.block_lt_of_cell? w _ hw302_0)).trans hw302_0)) (fun hHeld => ?_)
                        clear hK K
                        refine norm_ (a' := ?_) ?_ ?_
                        rotate_left
                        · show Act.put _ (some 73) _ = _
                          simp only [Act.put, List.setIfInBounds_toArray, List.set_cons_zero, List.set_cons_succ, i64_w, i32_w]
                          rfl
                        refine pure_ (i := 15) (N := some 10) (v := ?_) (a' := ?_) #[true, true, true, true, true, true, true, true, true, true, true, true, true, true, true, true] rfl rfl (any_of HT_.out (by kernel_rfl)) (fun _ _ _ h => h) (Or.inl ⟨by rfl, ?_⟩) ?_ ?_
                        rotate_left
                        · intro w'
                          go_simp
                          with_reducible rfl
                        rotate_left
                        · simp only [Act.put, List.setIfInBounds_toArray, List.set_cons_zero, List.set_cons_succ, i64_w, i32_w]
                          rfl
                        refine done_ (done_of HT_.out (by kernel_rfl)) ?_
                        go_upto_block 2 with (first | ((with_reducible refine gate_callee (f := 23) rfl ?_); refine goesL_ (some 79) rfl rfl Try.func23 (by kernel_rfl) rfl #[.int .i64 (wrap64 ((l0.length : Int) + 1)), .int .i64 a2, .int .i64 a3] rfl (by (try simp only [List.map_toArray, List.map_cons, List.map_nil]); first | done | rfl | (simp only [List.length_drop, List.length_take]; rfl)) ?_; (with_reducible refine (tegulalaw47_read.calls (wrap64 ((l0.length : Int) + 1)) a2 a3 t309 _ A27.out).mono ?_); rintro e w36 ⟨v310, rfl, ho0, hb⟩; refine ⟨_, rfl, ?_⟩; have n0_ := Aside0.mk (Kd.R_elder' (by (with_reducible repeat (first | apply Kd.R_alloc | apply Kd.R_drewN | apply Kd.R_drew)); exact HO305.out) (Kd.R_base ho0) hb); have n1_ := Aside0.mk (Kd.R_elder' (by (with_reducible repeat (first | apply Kd.R_alloc | apply Kd.R_drewN | apply Kd.R_drew)); exact HO308.out) (Kd.R_base ho0) hb); have n2_ := Aside0.mk (Kd.R_lower (Kd.R_new' (Kd.R_new' ho0 (Kd.R_lt (by (with_reducible repeat (first | apply Kd.R_alloc | apply Kd.R_drewN | apply Kd.R_drew)); exact HO305.out))) (Kd.R_lt (by (with_reducible repeat (first | apply Kd.R_alloc | apply Kd.R_drewN | apply Kd.R_drew)); exact HO308.out))) (below_size (by repeat (first | (with_reducible first | exact HB.out | apply below_alloc | apply pw_below_drewN | apply below_drew1) | exact HB.out)))); have n3_ := Aside0.mk (below_step (by repeat (first | (with_reducible first | exact HB.out | apply below_alloc | apply pw_below_drewN | apply below_drew1) | exact HB.out)) hb); clear HO305; clear HO308; clear HB; have HO305 := n0_; have HO308 := n1_; have HO311 := n2_; have HB := n3_; clear n0_ n1_ n2_ n3_; (try clear hb); (try clear hb2); (try clear hk); (try clear hi); (try clear ho0); obtain ⟨Ao38, co38, eo38⟩ := Kd.R_slice HO311.out; subst eo38) | ((with_reducible refine gate_builtin (b := .append) (xs := #[.tmp 74, .tmp 79]) rfl ?_); (try (refine gate_guard (by rfl) ?_; dsimp only)); at_builtin; refine Kd.R_append_rows k39 (w0 := w) w.heap.size rfl (.tmp 74) (.tmp 79) 22 39 (.agg #[(.int .i64 0), (.int .i64 0), (.bool false), (.int .i64 0), (.int .i64 0), (.bool false)]) 48 rfl Try.underlying22 info39 rfl (by decide) (by omega) v307 y306 t309 _ _ _ (fun k_ => some k_ ≠ (.slice Ao35 t303.length co35 : Value).ownBlock ∧ some k_ ≠ (.slice Ao38 t309.length co38 : Value).ownBlock) (fun _ => False) rfl rfl ?aO ?aR (fun _ _ h => h) (fun _ h => h.elim) ?aF ?aB ?aS ?aL ?_; (case aR => repeat (first | exact (Kd.R_reads' HO311.out).2.2 | (with_reducible refine Kd.C_alloc ?_ _) | (with_reducible refine Kd.C_drewN ?_ _) | (with_reducible refine Kd.C_drew ?_))); (case aB => exact (by repeat (first | (with_reducible first | exact HB.out | apply below_alloc | apply pw_below_drewN | apply below_drew1) | exact HB.out))); (case aF => exact (fun k_ hk => ⟨Kd.fresh' (Kd.R_lt (by (with_reducible repeat (first | apply Kd.R_alloc | apply Kd.R_drewN | apply Kd.R_drew)); exact HO305.out)) k_ hk, Kd.fresh' (Kd.R_lt (by (with_reducible repeat (first | apply Kd.R_alloc | apply Kd.R_drewN | apply Kd.R_drew)); exact HO311.out)) k_ hk⟩)); (case aO => exact (by (with_reducible repeat (first | apply Kd.R_alloc | apply Kd.R_drewN | apply Kd.R_drew)); exact HO308.out)); (case aS => exact (below_size (by repeat (first | (with_reducible first | exact HB.out | apply below_alloc | apply pw_below_drewN | apply below_drew1) | exact HB.out)))); (case aL => have := LMc28.out; omega); intro v313 w37 ho hb hg hat; rw [← Ny312.out] at ho; have n0_ := Aside0.mk (Kd.R_after (ok := (fun k_ => some k_ ≠ (.slice Ao38 t309.length co38 : Value).ownBlock)) (by (with_reducible repeat (first | apply Kd.R_alloc | apply Kd.R_drewN | apply Kd.R_drew)); exact Kd.R_mono HO305.out (fun _ hk => ⟨hk.2, hk.1.2⟩)) hg hat); have n1_ := Aside0.mk (Kd.R_after (ok := (fun k_ => some k_ ≠ (.slice Ao35 t303.length co35 : Value).ownBlock)) (by (with_reducible repeat (first | apply Kd.R_alloc | apply Kd.R_drewN | apply Kd.R_drew)); exact Kd.R_mono HO311.out (fun _ hk => ⟨hk.1.2, hk.2⟩)) hg hat); have n2_ := Aside0.mk (hb); have n3_ := Aside0.mk (ho); clear HO305; clear HO311; clear HB; clear HO308; have HO305 := n0_; have HO311 := n1_; have HB := n2_; have HO314 := n3_; clear n0_ n1_ n2_ n3_; clear ho hb hg hat; obtain ⟨Ao39, co39, eo39⟩ := Kd.R_slice HO314.out; subst eo39) | ((with_reducible refine gate_callee (f := 20) rfl ?_); refine goesL_ (some 83) rfl rfl Try.func20 (by kernel_rfl) rfl #[.slice Ao39 y312.length co39] rfl (by (try simp only [List.map_toArray, List.map_cons, List.map_nil]); first | done | rfl | (simp only [List.length_drop, List.length_take]; rfl)) ?_; (with_reducible refine (durable_Check.calls _ _ y312 t315 t316 _ ?side1 ?side2 A29.out).mono ?_); (case side1 => repeat (first | exact (Kd.R_reads' HO314.out).2.2 | (with_reducible refine Kd.C_alloc ?_ _) | (with_reducible refine Kd.C_drewN ?_ _) | (with_reducible refine Kd.C_drew ?_))); (case side2 => exact (Kd.R_reads' HO314.out).2.1); rintro e w40 ⟨v317, rfl, ho0, hb⟩; refine ⟨_, rfl, ?_⟩; have n0_ := Aside0.mk (Kd.R_below (by (with_reducible repeat (first | apply Kd.R_alloc | apply Kd.R_drewN | apply Kd.R_drew)); exact HO305.out) hb); have n1_ := Aside0.mk (Kd.R_below (by (with_reducible repeat (first | apply Kd.R_alloc | apply Kd.R_drewN | apply Kd.R_drew)); exact HO311.out) hb); have n2_ := Aside0.mk (Kd.R_below (by (with_reducible repeat (first | apply Kd.R_alloc | apply Kd.R_drewN | apply Kd.R_drew)); exact HO314.out) hb); have n3_ := Aside0.mk (Kd.R_lower ho0 (below_size (by repeat (first | (with_reducible first | exact HB.out | apply below_alloc | apply pw_below_drewN | apply below_drew1) | exact HB.out)))); have n4_ := Aside0.mk (below_step (by repeat (first | (with_reducible first | exact HB.out | apply below_alloc | apply pw_below_drewN | apply below_drew1) | exact HB.out)) hb); clear HO305; clear HO311; clear HO314; clear HB; have HO305 := n0_; have HO311 := n1_; have HO314 := n2_; have HO318 := n3_; have HB := n4_; clear n0_ n1_ n2_ n3_ n4_; (try clear hb); (try clear hb2); (try clear hk); (try clear hi); (try clear ho0)))
                        (try simp only [Act.put, List.setIfInBounds_toArray, List.set_cons_zero, List.set_cons_succ])
                        go_cut [14] (fun v14 wc => ∃ (kq : Nat) (x14_29 : Int), v14 = .int .i64 x14_29 ∧ Aside0 (tegulalaw47_torn.j3 kq l0 a1 a3 (l0.length : Int) t315 t316 x14_29 = some r) ∧ Aside0 (kq ≤ k2) ∧ Aside0 (Kd.R k33 33 wc w.heap.size (fun _ => True) v317 t315) ∧ Aside0 (Below w.heap.size w wc))
                        case first =>
                          have H := HC30.out
                          clear HC30
                          have H' := Aside0.mk H
                          clear H
                          go_wp2
                          go_loopg [14] k2 (fun kq v14 w' => ∃ (x14_3 : Int), v14 = .int .i64 x14_3 ∧ Aside0 (tegulalaw47_torn.l1 kq l0 a1 a2 a3 (l0.length : Int) t315 t316 x14_3 = some r) ∧ Aside0 (kq ≤ k2) ∧ Aside0 (Kd.R k33 33 w' w.heap.size (fun _ => True) v317 t315) ∧ Aside0 (Below w.heap.size w w'))
                          case atStart => exact ⟨(a3), (by first | rfl | (simp; done) | (simp [*]; done)), H', ⟨Nat.le_refl _⟩, ⟨by (with_reducible repeat (first | apply Kd.R_alloc | apply Kd.R_drewN | apply Kd.R_drew)); exact HO318.out⟩, ⟨by repeat (first | (with_reducible first | exact HB.out | apply below_alloc | apply pw_below_drewN | apply below_drew1) | exact HB.out)⟩⟩
                          case round =>
                            clear H'
                            try clear c1
                            try clear c2
                            try clear p2
                            try clear q2
                            try clear hx2
                            try clear p3
                            try clear q3
                            try clear hx3
                            try clear c6
                            try clear c6b0
                            try clear p6
                            try clear c7
                            try clear c7b0
                            try clear c8
                            try clear c8b0
                            try clear c8b1
                            try clear c9
                            try clear c9b0
                            try clear c11
                            try clear c11b0
                            try clear c12
                            try clear c12b0
                            try clear c13
                            try clear c14
                            try clear c14b0
                            try clear c15
                            try clear c15b0
                            try clear c16
                            try clear c16b0
                            try clear c18
                            try clear c20
                            try clear c22
                            try clear c23
                            try clear c23b0
                            try clear c24
                            try clear c24b0
                            try clear c26
                            try clear c28
                            try clear p29
                            try clear q29
                            try clear hx29
                            try clear p30
                            try clear q30
                            try clear hx30
                            try clear hx290_0
                            try clear hx291_0
                            try clear hx292_0
                            try clear hx302_0
                            try clear p2
                            try clear p290
                            try clear p291
                            try clear p292
                            try clear p302
                            try clear p6
                            try clear q2
                            try clear q290
                            try clear q291
                            try clear q292
                            try clear q302
                            obtain ⟨x14_3, rfl, HA, HK3, HO_12, HB⟩ := hrel
                            cases gk with
                            | zero => exact absurd HA.out (by simp [tegulalaw47_torn.l1])
                            | succ k3 =>
                              have H := HA.out
                              clear HA
                              simp only [tegulalaw47_torn.l1] at H
                              by_cases c41 : x14_3 < (l0.length : Int)
                              · rw [if_pos c41] at H
                                have c41b0 : decide (x14_3 < (l0.length : Int)) = true := decide_eq_true c41
                                clear c41
                                (first | rw [c41b0] | (simp only [i64_w, i32_w]; rw [c41b0]) | skip)
                                by_cases c42 : 0 ≤ x14_3
                                · rw [if_pos c42] at H
                                  have c42b0 : decide (0 ≤ x14_3) = true := decide_eq_true c42
                                  clear c42
                                  by_cases c43 : x14_3 < (l0.length : Int)
                                  · rw [if_pos c43] at H
                                    have c43b0 : decide (x14_3 < (l0.length : Int)) = true := decide_eq_true c43
                                    clear c43
                                    by_cases c44 : (wrap64 (Int.tmod (rd l0 x14_3) 4)) = a2
                                    · rw [if_pos c44] at H
                                      have c44b0 : ((wrap64 (Int.tmod (rd l0 x14_3) 4)) == a2) = true := beq_iff_eq.mpr c44
                                      have c44b1 : ((wrap64 (Int.tmod (rd l0 x14_3) 4)) != a2) = false := bne_eq_false_iff_eq.mpr c44
                                      clear c44
                                      have H' := Aside0.mk H
                                      clear H
                                      have p319 : 0 ≤ (x14_3 : Int) := of_decide_eq_true (by first | (with_reducible assumption) | assumption)
                                      have q319 : x14_3 < (l0.length : Int) := of_decide_eq_true (by first | (with_reducible assumption) | assumption)
                                      obtain ⟨ad319, e319, hx319_0⟩ := Kd.at_int HR0.out x14_3 p319 q319
                                      obtain rfl : ad302 = ad319 := (by injection e319)
                                      replace hx319_0 := (HB.out.cell (World.block_lt_of_cell? w _ hx319_0)).trans hx319_0
                                      replace p319 := eq_true p319
                                      replace q319 := eq_true q319
                                      go_wp2
                                      go_meet
                                      case rel => exact ⟨_, (x14_3), (by first | rfl | (simp; done) | (simp [*]; done)), H', ⟨by have := HJ4.out; have := HK2.out; have := HK3.out; first | omega | exact Nat.le_refl _⟩, ⟨by (with_reducible repeat (first | apply Kd.R_alloc | apply Kd.R_drewN | apply Kd.R_drew)); exact HO_12.out⟩, ⟨by repeat (first | (with_reducible first | exact HB.out | apply below_alloc | apply pw_below_drewN | apply below_drew1) | exact HB.out)⟩⟩
                                    · rw [if_neg c44] at H
                                      have c44b0 : ((wrap64 (Int.tmod (rd l0 x14_3) 4)) == a2) = false := beq_eq_false_iff_ne.mpr c44
                                      have c44b1 : ((wrap64 (Int.tmod (rd l0 x14_3) 4)) != a2) = true := bne_iff_ne.mpr c44
                                      have H' := Aside0.mk H
                                      clear H
                                      have p319 : 0 ≤ (x14_3 : Int) := of_decide_eq_true (by first | (with_reducible assumption) | assumption)
                                      have q319 : x14_3 < (l0.length : Int) := of_decide_eq_true (by first | (with_reducible assumption) | assumption)
                                      obtain ⟨ad319, e319, hx319_0⟩ := Kd.at_int HR0.out x14_3 p319 q319
                                      obtain rfl : ad302 = ad319 := (by injection e319)
                                      replace hx319_0 := (HB.out.cell (World.block_lt_of_cell? w _ hx319_0)).trans hx319_0
                                      replace p319 := eq_true p319
                                      replace q319 := eq_true q319
                                      go_wp2
                                      go_roundg k3
                                      case measure => have := HJ4.out; have := HK2.out; have := HK3.out; omega
                                      case rel => exact ⟨(wrap64 (x14_3 + 1)), (by first | rfl | (simp; done) | (simp [*]; done)), H', ⟨by have := HJ4.out; have := HK2.out; have := HK3.out; omega⟩, ⟨by (with_reducible repeat (first | apply Kd.R_alloc | apply Kd.R_drewN | apply Kd.R_drew)); exact HO_12.out⟩, ⟨by repeat (first | (with_reducible first | exact HB.out | apply below_alloc | apply pw_below_drewN | apply below_drew1) | exact HB.out)⟩⟩
                                  · rw [if_neg c43] at H
                                    exact absurd H (by simp)
                                · rw [if_neg c42] at H
                                  exact absurd H (by simp)
                              · rw [if_neg c41] at H
                                have c41b0 : decide (x14_3 < (l0.length : Int)) = false := decide_eq_false c41
                                clear c41
                                (first | rw [c41b0] | (simp only [i64_w, i32_w]; rw [c41b0]) | skip)
                                have H' := Aside0.mk H
                                clear H
                                go_wp2
                                go_meet
                                case rel => exact ⟨_, (x14_3), (by first | rfl | (simp; done) | (simp [*]; done)), H', ⟨by have := HJ4.out; have := HK2.out; have := HK3.out; first | omega | exact Nat.le_refl _⟩, ⟨by (with_reducible repeat (first | apply Kd.R_alloc | apply Kd.R_drewN | apply Kd.R_drew)); exact HO_12.out⟩, ⟨by repeat (first | (with_reducible first | exact HB.out | apply below_alloc | apply pw_below_drewN | apply below_drew1) | exact HB.out)⟩⟩
                        case rest =>
                          clear HC30
                          try clear c1
                          try clear c2
                          try clear p2
                          try clear q2
                          try clear hx2
                          try clear p3
                          try clear q3
                          try clear hx3
                          try clear c4
                          try clear c6
                          try clear c6b0
                          try clear p6
                          try clear c7
                          try clear c7b0
                          try clear c8
                          try clear c8b0
                          try clear c8b1
                          try clear c9
                          try clear c9b0
                          try clear c11
                          try clear c11b0
                          try clear c12
                          try clear c12b0
                          try clear c13
                          try clear c14
                          try clear c14b0
                          try clear c15
                          try clear c15b0
                          try clear c16
                          try clear c16b0
                          try clear c18
                          try clear c20
                          try clear c22
                          try clear c23
                          try clear c23b0
                          try clear c24
                          try clear c24b0
                          try clear c26
                          try clear c28
                          try clear p29
                          try clear q29
                          try clear hx29
                          try clear p30
                          try clear q30
                          try clear hx30
                          try clear p31
                          try clear q31
                          try clear hx31
                          try clear c41
                          try clear c41b0
                          try clear c42
                          try clear c42b0
                          try clear c43
                          try clear c43b0
                          try clear c44
                          try clear c44b0
                          try clear c44b1
                          try clear hx290_0
                          try clear hx291_0
                          try clear hx292_0
                          try clear hx302_0
                          try clear hx319_0
                          try clear p2
                          try clear p29
                          try clear p290
                          try clear p291
                          try clear p292
                          try clear p3
                          try clear p30
                          try clear p302
                          try clear p319
                          try clear p6
                          try clear q2
                          try clear q29
                          try clear q290
                          try clear q291
                          try clear q292
                          try clear q3
                          try clear q30
                          try clear q302
                          try clear q319
                          obtain ⟨kq, x14_29, rfl, HA, HJ29, HO_12, HB⟩ := hcut
                          cases kq with
                          | zero => exact absurd HA.out (by simp [tegulalaw47_torn.j3])
                          | succ kj29 =>
                            have H := HA.out
                            clear HA
                            simp only [tegulalaw47_torn.j3] at H
                            have HC45 := Aside0.mk H
                            clear H
                            go_upto_region 15 with (fail)
                            go_cut [108] (fun v108 wc => ∃ (kq : Nat) (x108_44 : Bool), v108 = .bool x108_44 ∧ Aside0 (tegulalaw47_torn.j4 kq l0 a1 a3 (l0.length : Int) t315 x14_29 x108_44 = some r) ∧ Aside0 (kq ≤ kj29) ∧ Aside0 (Kd.R k33 33 wc w.heap.size (fun _ => True) v317 t315) ∧ Aside0 (Below w.heap.size w wc))
                            case first =>
                              have H := HC45.out
                              clear HC45
                              by_cases c46 : t316 = 0
                              · rw [if_pos c46] at H
                                have c46b0 : (t316 == 0) = true := beq_iff_eq.mpr c46
                                have c46b1 : (t316 != 0) = false := bne_eq_false_iff_eq.mpr c46
                                clear c46
                                (first | rw [c46b0] | (simp only [i64_w, i32_w]; rw [c46b0]) | skip)
                                have H' := Aside0.mk H
                                clear H
                                obtain ⟨Ao47, co47, eo47⟩ := Kd.R_slice HO_12.out
                                subst eo47
                                go_wp2
                                go_meet
                                case rel => exact ⟨_, (decide ((t315.length : Int) > 1)), (by first | rfl | (simp; done) | (simp [*]; done)), H', ⟨by have := HJ4.out; have := HK2.out; have := HJ29.out; first | omega | exact Nat.le_refl _⟩, ⟨by (with_reducible repeat (first | apply Kd.R_alloc | apply Kd.R_drewN | apply Kd.R_drew)); exact HO_12.out⟩, ⟨by repeat (first | (with_reducible first | exact HB.out | apply below_alloc | apply pw_below_drewN | apply below_drew1) | exact HB.out)⟩⟩
                              · rw [if_neg c46] at H
                                have c46b0 : (t316 == 0) = false := beq_eq_false_iff_ne.mpr c46
                                have c46b1 : (t316 != 0) = true := bne_iff_ne.mpr c46
                                (first | rw [c46b0] | (simp only [i64_w, i32_w]; rw [c46b0]) | skip)
                                have H' := Aside0.mk H
                                clear H
                                go_wp2
                                go_meet
                                case rel => exact ⟨_, (true), (by first | rfl | (simp; done) | (simp [*]; done)), H', ⟨by have := HJ4.out; have := HK2.out; have := HJ29.out; first | omega | exact Nat.le_refl _⟩, ⟨by (with_reducible repeat (first | apply Kd.R_alloc | apply Kd.R_drewN | apply Kd.R_drew)); exact HO_12.out⟩, ⟨by repeat (first | (with_reducible first | exact HB.out | apply below_alloc | apply pw_below_drewN | apply below_drew1) | exact HB.out)⟩⟩
                            case rest =>
                              clear HC45
                              try clear c1
                              try clear c2
                              try clear p2
                              try clear q2
                              try clear hx2
                              try clear p3
                              try clear q3
                              try clear hx3
                              try clear c4
                              try clear c6
                              try clear c6b0
                              try clear p6
                              try clear c7
                              try clear c7b0
                              try clear c8
                              try clear c8b0
                              try clear c8b1
                              try clear c9
                              try clear c9b0
                              try clear c11
                              try clear c11b0
                              try clear c12
                              try clear c12b0
                              try clear c13
                              try clear c14
                              try clear c14b0
                              try clear c15
                              try clear c15b0
                              try clear c16
                              try clear c16b0
                              try clear c18
                              try clear c20
                              try clear c22
                              try clear c23
                              try clear c23b0
                              try clear c24
                              try clear c24b0
                              try clear c26
                              try clear c28
                              try clear p29
                              try clear q29
                              try clear hx29
                              try clear p30
                              try clear q30
                              try clear hx30
                              try clear p31
                              try clear q31
                              try clear hx31
                              try clear c41
                              try clear c41b0
                              try clear c42
                              try clear c42b0
                              try clear c43
                              try clear c43b0
                              try clear c44
                              try clear c44b0
                              try clear c44b1
                              try clear c46
                              try clear c46b0
                              try clear c46b1
                              try clear hx290_0
                              try clear hx291_0
                              try clear hx292_0
                              try clear hx302_0
                              try clear hx319_0
                              try clear p2
                              try clear p29
                              try clear p290
                              try clear p291
                              try clear p292
                              try clear p3
                              try clear p30
                              try clear p302
                              try clear p31
                              try clear p319
                              try clear p6
                              try clear q2
                              try clear q29
                              try clear q290
                              try clear q291
                              try clear q292
                              try clear q3
                              try clear q30
                              try clear q302
                              try clear q31
                              try clear q319
                              obtain ⟨kq, x108_44, rfl, HA, HJ44, HO_12, HB⟩ := hcut
                              cases kq with
                              | zero => exact absurd HA.out (by simp [tegulalaw47_torn.j4])
                              | succ kj44 =>
                                have H := HA.out
                                clear HA
                                simp only [tegulalaw47_torn.j4] at H
                                by_cases c48 : x108_44 = true
                                · subst c48
                                  have H1 : (some false) = some r := by rw [if_pos rfl] at H; exact H
                                  clear H
                                  have H := H1
                                  clear H1
                                  obtain rfl := Option.some.inj H
                                  go_wp2
                                  go_ret
                                  exact ⟨by first | rfl | (simp [errW_none, errW_some] <;> rfl) | (simp [*, errW_none, errW_some] <;> rfl), by repeat (first | (with_reducible first | exact HB.out | apply below_alloc | apply pw_below_drewN | apply below_drew1) | exact HB.out)⟩
                                · replace c48 := Bool.eq_false_iff.mpr c48
                                  subst c48
                                  have H1 : (if a3 > 0 then (tegulalaw47_torn.l2 kj44 l0 a1 a3 (l0.length : Int) t315 x14_29 false (wrap64 (a1 + 1))) else (tegulalaw47_torn.j6 kj44 a1 (l0.length : Int) t315 x14_29 false)) = some r := by rw [if_neg (show ¬ (false = true) by decide)] at H; exact H
                                  clear H
                                  have H := H1
                                  clear H1
                                  have HC49 := Aside0.mk H
                                  clear H
                                  go_upto_if 110 with (fail)
                                  go_cut [15] (fun v15 wc => ∃ (kq : Nat) (x15_48 : Bool), v15 = .bool x15_48 ∧ Aside0 (tegulalaw47_torn.j6 kq a1 (l0.length : Int) t315 x14_29 x15_48 = some r) ∧ Aside0 (kq ≤ kj44) ∧ Aside0 (Kd.R k33 33 wc w.heap.size (fun _ => True) v317 t315) ∧ Aside0 (Below w.heap.size w wc))
                                  case first =>
                                    have H := HC49.out
                                    clear HC49
                                    by_cases c50 : a3 > 0
                                    · rw [if_pos c50] at H
                                      have c50b0 : decide (0 < a3) = true := decide_eq_true c50
                                      clear c50
                                      (first | rw [c50b0] | (simp only [i64_w, i32_w]; rw [c50b0]) | skip)
                                      have H' := Aside0.mk H
                                      clear H
                                      go_wp2
                                      go_loopg [15, 16] kj44 (fun kq v15 v16 w' => ∃ (x15_5 : Bool) (x16_5 : Int), v15 = .bool x15_5 ∧ v16 = .int .i64 x16_5 ∧ Aside0 (tegulalaw47_torn.l2 kq l0 a1 a3 (l0.length : Int) t315 x14_29 x15_5 x16_5 = some r) ∧ Aside0 (kq ≤ kj44) ∧ Aside0 (Kd.R k33 33 w' w.heap.size (fun _ => True) v317 t315) ∧ Aside0 (Below w.heap.size w w'))
                                      case atStart => exact ⟨(false), (wrap64 (a1 + 1)), (by first | rfl | (simp; done) | (simp [*]; done)), (by first | rfl | (simp; done) | (simp [*]; done)), H', ⟨Nat.le_refl _⟩, ⟨by (with_reducible repeat (first | apply Kd.R_alloc | apply Kd.R_drewN | apply Kd.R_drew)); exact HO_12.out⟩, ⟨by repeat (first | (with_reducible first | exact HB.out | apply below_alloc | apply pw_below_drewN | apply below_drew1) | exact HB.out)⟩⟩
                                      case round =>
                                        clear H'
                                        try clear c1
                                        try clear c2
                                        try clear p2
                                        try clear q2
                                        try clear hx2
                                        try clear p3
                                        try clear q3
                                        try clear hx3
                                        try clear c4
                                        try clear c5
                                        try clear c6
                                        try clear c6b0
                                        try clear p6
                                        try clear c7
                                        try clear c7b0
                                        try clear c8
                                        try clear c8b0
                                        try clear c8b1
                                        try clear c9
                                        try clear c9b0
                                        try clear c11
                                        try clear c11b0
                                        try clear c12
                                        try clear c12b0
                                        try clear c13
                                        try clear c14
                                        try clear c14b0
                                        try clear c15
                                        try clear c15b0
                                        try clear c16
                                        try clear c16b0
                                        try clear c18
                                        try clear c20
                                        try clear c22
                                        try clear c23
                                        try clear c23b0
                                        try clear c24
                                        try clear c24b0
                                        try clear c26
                                        try clear c28
                                        try clear p29
                                        try clear q29
                                        try clear hx29
                                        try clear p30
                                        try clear q30
                                        try clear hx30
                                        try clear p31
                                        try clear q31
                                        try clear hx31
                                        try clear c41
                                        try clear c41b0
                                        try clear c42
                                        try clear c42b0
                                        try clear c43
                                        try clear c43b0
                                        try clear c44
                                        try clear c44b0
                                        try clear c44b1
                                        try clear c46
                                        try clear c46b0
                                        try clear c46b1
                                        try clear c48
                                        try clear c50
                                        try clear c50b0
                                        try clear hx290_0
                                        try clear hx291_0
                                        try clear hx292_0
                                        try clear hx302_0
                                        try clear hx319_0
                                        try clear p2
                                        try clear p29
                                        try clear p290
                                        try clear p291
                                        try clear p292
                                        try clear p3
                                        try clear p30
                                        try clear p302
                                        try clear p31
                                        try clear p319
                                        try clear p6
                                        try clear q2
                                        try clear q29
                                        try clear q290
                                        try clear q291
                                        try clear q292
                                        try clear q3
                                        try clear q30
                                        try clear q302
                                        try clear q31
                                        try clear q319
                                        obtain ⟨x15_5, x16_5, rfl, rfl, HA, HK5, HO_12, HB⟩ := hrel
                                        cases gk with
                                        | zero => exact absurd HA.out (by simp [tegulalaw47_torn.l2])
                                        | succ k5 =>
                                          have H := HA.out
                                          clear HA
                                          simp only [tegulalaw47_torn.l2] at H
                                          by_cases c51 : x16_5 < (wrap64 (a3 - 1))
                                          · rw [if_pos c51] at H
                                            have c51b0 : decide (x16_5 < (wrap64 (a3 - 1))) = true := decide_eq_true c51
                                            clear c51
                                            by_cases c52 : x15_5 = true
                                            · subst c52
                                              have H1 : (tegulalaw47_torn.l2 k5 l0 a1 a3 (l0.length : Int) t315 x14_29 true (wrap64 (x16_5 + 1))) = some r := by rw [if_pos rfl] at H; exact H
                                              clear H
                                              have H := H1
                                              clear H1
                                              have H' := Aside0.mk H
                                              clear H
                                              try go_wp2
                                              have n0_ := Aside0.mk (Kd.R_drew HO_12.out)
                                              have n1_ := Aside0.mk (below_drew1 HB.out)
                                              clear HO_12
                                              clear HB
                                              have HO_12 := n0_
                                              have HB := n1_
                                              clear n0_ n1_
                                              refine start_ (n := 15) (S := fun w' => True) (ds := []) #[false, false, false, false, false, false, false, false, false, false, false, false, false, false, false] (by kernel_rfl) rfl rfl trivial (fun hHeld => ?_); refine with_tabW tegulalaw47_torn.tab22 tegulalaw47_torn.bits22 (fun HT_ HW_ => ?_)
                                              generalize wr.drew = w53 at HO_12 HB hHeld ⊢
                                              refine pure_ (i := 0) (N := some 119) (v := ?_) (a' := ?_) #[true, false, false, false, false, false, false, false, false, false, false, false, false, false, false] rfl rfl (any_of HT_.out (by kernel_rfl)) (fun _ _ _ h => h) (Or.inl ⟨by rfl, ?_⟩) ?_ ?_
                                              rotate_left
                                              · intro w'
                                                go_simp
                                                with_reducible rfl
                                              rotate_left
                                              · simp only [Act.put, List.setIfInBounds_toArray, List.set_cons_zero, List.set_cons_succ, i64_w, i32_w]
                                                rfl
                                              refine pure_ (i := 1) (N := some 120) (v := ?_) (a' := ?_) #[true, true, false, false, false, false, false, false, false, false, false, false, false, false, false] rfl rfl (any_of HT_.out (by kernel_rfl)) (fun _ _ _ h => h) (Or.inl ⟨by rfl, ?_⟩) ?_ ?_
                                              rotate_left
                                              · intro w'
                                                go_simp
                                                with_reducible rfl
                                              rotate_left
                                              · simp only [Act.put, List.setIfInBounds_toArray, List.set_cons_zero, List.set_cons_succ, i64_w, i32_w]
                                                rfl
                                              refine pure_ (i := 2) (N := some 121) (v := undef) (a' := ?_) #[true, true, true, false, false, false, false, false, false, false, false, false, false, false, false] rfl rfl (any_of HT_.out (by kernel_rfl)) (fun _ _ _ h => h) (Or.inr ⟨by rfl, rfl⟩) ?_ ?_
                                              rotate_left
                                              · simp only [Act.put, List.setIfInBounds_toArray, List.set_cons_zero, List.set_cons_succ, i64_w, i32_w]
                                                rfl
                                              refine pure_ (i := 3) (N := some 122) (v := undef) (a' := ?_) #[true, true, true, true, false, false, false, false, false, false, false, false, false, false, false] rfl rfl (any_of HT_.out (by kernel_rfl)) (fun _ _ _ h => h) (Or.inr ⟨by rfl, rfl⟩) ?_ ?_
                                              rotate_left
                                              · simp only [Act.put, List.setIfInBounds_toArray, List.set_cons_zero, List.set_cons_succ, i64_w, i32_w]
                                                rfl
                                              refine pure_ (i := 4) (N := some 123) (v := undef) (a' := ?_) #[true, true, true, true, true, false, false, false, false, false, false, false, false, false, false] rfl rfl (any_of HT_.out (by kernel_rfl)) (fun _ _ _ h => h) (Or.inr ⟨by rfl, rfl⟩) ?_ ?_
                                              rotate_left
                                              · simp only [Act.put, List.setIfInBounds_toArray, List.set_cons_zero, List.set_cons_succ, i64_w, i32_w]
                                                rfl
                                              refine pure_ (i := 5) (N := some 124) (v := undef) (a' := ?_) #[true, true, true, true, true, true, false, false, false, false, false, false, false, false, false] rfl rfl (any_of HT_.out (by kernel_rfl)) (fun _ _ _ h => h) (Or.inr ⟨by rfl, rfl⟩) ?_ ?_
                                              rotate_left
                                              · simp only [Act.put, List.setIfInBounds_toArray, List.set_cons_zero, List.set_cons_succ, i64_w, i32_w]
                                                rfl
                                              refine pure_ (i := 6) (N := some 125) (v := undef) (a' := ?_) #[true, true, true, true, true, true, true, false, false, false, false, false, false, false, false] rfl rfl (any_of HT_.out (by kernel_rfl)) (fun _ _ _ h => h) (Or.inr ⟨by rfl, rfl⟩) ?_ ?_
                                              rotate_left
                                              · simp only [Act.put, List.setIfInBounds_toArray, List.set_cons_zero, List.set_cons_succ, i64_w, i32_w]
                                                rfl
                                              refine pure_ (i := 7) (N := some 126) (v := undef) (a' := ?_) #[true, true, true, true, true, true, true, true, false, false, false, false, false, false, false] rfl rfl (any_of HT_.out (by kernel_rfl)) (fun _ _ _ h => h) (Or.inr ⟨by rfl, rfl⟩) ?_ ?_
                                              rotate_left
                                              · simp only [Act.put, List.setIfInBounds_toArray, List.set_cons_zero, List.set_cons_succ, i64_w, i32_w]
                                                rfl
                                              refine pure_ (i := 8) (N := some 127) (v := undef) (a' := ?_) #[true, true, true, true, true, true, true, true, true, false, false, false, false, false, false] rfl rfl (any_of HT_.out (by kernel_rfl)) (fun _ _ _ h => h) (Or.inr ⟨by rfl, rfl⟩) ?_ ?_
                                              rotate_left
                                              · simp only [Act.put, List.setIfInBounds_toArray, List.set_cons_zero, List.set_cons_succ, i64_w, i32_w]
                                                rfl
                                              refine pure_ (i := 9) (N := some 128) (v := undef) (a' := ?_) #[true, true, true, true, true, true, true, true, true, true, false, false, false, false, false] rfl rfl (any_of HT_.out (by kernel_rfl)) (fun _ _ _ h => h) (Or.inr ⟨by rfl, rfl⟩) ?_ ?_
                                              rotate_left
                                              · simp only [Act.put, List.setIfInBounds_toArray, List.set_cons_zero, List.set_cons_succ, i64_w, i32_w]
                                                rfl
                                              refine pure_ (i := 10) (N := some 129) (v := undef) (a' := ?_) #[true, true, true, true, true, true, true, true, true, true, true, false, false, false, false] rfl rfl (any_of HT_.out (by kernel_rfl)) (fun _ _ _ h => h) (Or.inr ⟨by rfl, rfl⟩) ?_ ?_
                                              rotate_left
                                              · simp only [Act.put, List.setIfInBounds_toArray, List.set_cons_zero, List.set_cons_succ, i64_w, i32_w]
                                                rfl
                                              refine pure_ (i := 11) (N := some 130) (v := undef) (a' := ?_) #[true, true, true, true, true, true, true, true, true, true, true, true, false, false, false] rfl rfl (any_of HT_.out (by kernel_rfl)) (fun _ _ _ h => h) (Or.inr ⟨by rfl, rfl⟩) ?_ ?_
                                              rotate_left
                                              · simp only [Act.put, List.setIfInBounds_toArray, List.set_cons_zero, List.set_cons_succ, i64_w, i32_w]
                                                rfl
                                              refine pure_ (i := 12) (N := some 131) (v := undef) (a' := ?_) #[true, true, true, true, true, true, true, true, true, true, true, true, true, false, false] rfl rfl (any_of HT_.out (by kernel_rfl)) (fun _ _ _ h => h) (Or.inr ⟨by rfl, rfl⟩) ?_ ?_
                                              rotate_left
                                              · simp only [Act.put, List.setIfInBounds_toArray, List.set_cons_zero, List.set_cons_succ, i64_w, i32_w]
                                                rfl
                                              refine pure_ (i := 13) (N := some 132) (v := ?_) (a' := ?_) #[true, true, true, true, true, true, true, true, true, true, true, true, true, true, false] rfl rfl (any_of HT_.out (by kernel_rfl)) (fun _ _ _ h => h) (Or.inl ⟨by rfl, ?_⟩) ?_ ?_
                                              rotate_left
                                              · intro w'
                                                go_simp
                                                with_reducible rfl
                                              rotate_left
                                              · simp only [Act.put, List.setIfInBounds_toArray, List.set_cons_zero, List.set_cons_succ, i64_w, i32_w]
                                                rfl
                                              refine pure_ (i := 14) (N := some 15) (v := ?_) (a' := ?_) #[true, true, true, true, true, true, true, true, true, true, true, true, true, true, true] rfl rfl (any_of HT_.out (by kernel_rfl)) (fun _ _ _ h => h) (Or.inl ⟨by rfl, ?_⟩) ?_ ?_
                                              rotate_left
                                              · intro w'
                                                go_simp
                                                with_reducible rfl
                                              rotate_left
                                              · simp only [Act.put, List.setIfInBounds_toArray, List.set_cons_zero, List.set_cons_succ, i64_w, i32_w]
                                                rfl
                                              refine done_ (done_of HT_.out (by kernel_rfl)) ?_
                                              try go_wp2
                                              go_roundg k5
                                              case measure => have := HJ4.out; have := HK2.out; have := HJ29.out; have := HJ44.out; have := HK5.out; omega
                                              case rel => exact ⟨(true), (wrap64 (x16_5 + 1)), (by first | rfl | (simp; done) | (simp [*]; done)), (by first | rfl | (simp; done) | (simp [*]; done)), H', ⟨by have := HJ4.out; have := HK2.out; have := HJ29.out; have := HJ44.out; have := HK5.out; omega⟩, ⟨by (with_reducible repeat (first | apply Kd.R_alloc | apply Kd.R_drewN | apply Kd.R_drew)); exact HO_12.out⟩, ⟨by repeat (first | (with_reducible first | exact HB.out | apply below_alloc | apply pw_below_drewN | apply below_drew1) | exact HB.out)⟩⟩
                                            · replace c52 := Bool.eq_false_iff.mpr c52
                                              subst c52
                                              have H1 : (if 0 ≤ x16_5 then (if x16_5 < (l0.length : Int) then (if 0 ≤ a1 then (if a1 < (l0.length : Int) then (tegulalaw47_torn.l2 k5 l0 a1 a3 (l0.length : Int) t315 x14_29 ((Int.tmod (rd l0 x16_5) 4) == (Int.tmod (rd l0 a1) 4)) (wrap64 (x16_5 + 1))) else (none)) else (none)) else (none)) else (none)) = some r := by rw [if_neg (show ¬ (false = true) by decide)] at H; exact H
                                              clear H
                                              have H := H1
                                              clear H1
                                              by_cases c54 : 0 ≤ x16_5
                                              · rw [if_pos c54] at H
                                                have c54b0 : decide (0 ≤ x16_5) = true := decide_eq_true c54
                                                clear c54
                                                by_cases c55 : x16_5 < (l0.length : Int)
                                                · rw [if_pos c55] at H
                                                  have c55b0 : decide (x16_5 < (l0.length : Int)) = true := decide_eq_true c55
                                                  clear c55
                                                  by_cases c56 : 0 ≤ a1
                                                  · rw [if_pos c56] at H
                                                    have c56b0 : decide (0 ≤ a1) = true := decide_eq_true c56
                                                    clear c56
                                                    by_cases c57 : a1 < (l0.length : Int)
                                                    · rw [if_pos c57] at H
                                                      have c57b0 : decide (a1 < (l0.length : Int)) = true := decide_eq_true c57
                                                      clear c57
                                                      have H' := Aside0.mk H
                                                      clear H
                                                      try go_wp2
                                                      have n0_ := Aside0.mk (Kd.R_drew HO_12.out)
                                                      have n1_ := Aside0.mk (below_drew1 HB.out)
                                                      clear HO_12
                                                      clear HB
                                                      have HO_12 := n0_
                                                      have HB := n1_
                                                      clear n0_ n1_
                                                      have p320 : 0 ≤ (x16_5 : Int) := of_decide_eq_true (by first | (with_reducible assumption) | assumption)
                                                      have q320 : x16_5 < (l0.length : Int) := of_decide_eq_true (by first | (with_reducible assumption) | assumption)
                                                      obtain ⟨ad320, e320, hx320_0⟩ := Kd.at_int HR0.out x16_5 p320 q320
                                                      have hw320_0 := hx320_0
                                                      obtain rfl : ad302 = ad320 := (by injection e320)
                                                      replace hx320_0 := (HB.out.cell (World.block_lt_of_cell? w _ hx320_0)).trans hx320_0
                                                      replace p320 := eq_true p320
                                                      replace q320 := eq_true q320
                                                      have p321 : 0 ≤ (a1 : Int) := of_decide_eq_true (by first | (with_reducible assumption) | assumption)
                                                      have q321 : a1 < (l0.length : Int) := of_decide_eq_true (by first | (with_reducible assumption) | assumption)
                                                      obtain ⟨ad321, e321, hx321_0⟩ := Kd.at_int HR0.out a1 p321 q321
                                                      have hw321_0 := hx321_0
                                                      obtain rfl : ad302 = ad321 := (by injection e321)
                                                      replace hx321_0 := (HB.out.cell (World.block_lt_of_cell? w _ hx321_0)).trans hx321_0
                                                      replace p321 := eq_true p321
                                                      replace q321 := eq_true q321
                                                      refine start_ (n := 15) (S := fun w' => w'.cell? (ad302.add (x16_5).toNat) = some (.int .u8 (rd l0 x16_5)) ∧ w'.cell? (ad302.add (a1).toNat) = some (.int .u8 (rd l0 a1))) (ds := []) #[false, false, false, false, false, false, false, false, false, false, false, false, false, false, false] (by kernel_rfl) rfl rfl ⟨((HB.out.cell (World.block_lt_of_cell? w _ hw320_0)).trans hw320_0), ((HB.out.cell (World.block_lt_of_cell? w _ hw321_0)).trans hw321_0)⟩ (fun hHeld => ?_); refine with_tabW tegulalaw47_torn.tab22 tegulalaw47_torn.bits22 (fun HT_ HW_ => ?_)
                                                      generalize wr.drew = w58 at HO_12 HB hx320_0 hx321_0 hHeld ⊢
                                                      refine pure_ (i := 0) (N := some 119) (v := ?_) (a' := ?_) #[true, false, false, false, false, false, false, false, false, false, false, false, false, false, false] rfl rfl (any_of HT_.out (by kernel_rfl)) (fun _ _ _ h => h) (Or.inl ⟨by rfl, ?_⟩) ?_ ?_
                                                      rotate_left
                                                      · intro w'
                                                        go_simp
                                                        with_reducible rfl
                                                      rotate_left
                                                      · simp only [Act.put, List.setIfInBounds_toArray, List.set_cons_zero, List.set_cons_succ, i64_w, i32_w]
                                                        rfl
                                                      refine pure_ (i := 1) (N := some 120) (v := ?_) (a' := ?_) #[true, true, false, false, false, false, false, false, false, false, false, false, false, false, false] rfl rfl (any_of HT_.out (by kernel_rfl)) (fun _ _ _ h => h) (Or.inl ⟨by rfl, ?_⟩) ?_ ?_
                                                      rotate_left
                                                      · intro w'
                                                        go_simp
                                                        with_reducible rfl
                                                      rotate_left
                                                      · simp only [Act.put, List.setIfInBounds_toArray, List.set_cons_zero, List.set_cons_succ, i64_w, i32_w]
                                                        rfl
                                                      refine pure_ (i := 2) (N := some 121) (v := ?_) (a' := ?_) #[true, true, true, false, false, false, false, false, false, false, false, false, false, false, false] rfl rfl (any_of HT_.out (by kernel_rfl)) (fun _ _ _ h => h) (Or.inl ⟨by rfl, ?_⟩) ?_ ?_
                                                      rotate_left
                                                      · intro w'
                                                        go_simp
                                                        with_reducible rfl
                                                      rotate_left
                                                      · simp only [Act.put, List.setIfInBounds_toArray, List.set_cons_zero, List.set_cons_succ, i64_w, i32_w]
                                                        rfl
                                                      refine pure_ (i := 3) (N := some 122) (v := ?_) (a' := ?_) #[true, true, true, true, false, false, false, false, false, false, false, false, false, false, false] rfl rfl (any_of HT_.out (by kernel_rfl)) (fun _ _ _ h => h) (Or.inl ⟨by rfl, ?_⟩) ?_ ?_
                                                      rotate_left
                                                      · intro w'
                                                        go_simp
                                                        with_reducible rfl
                                                      rotate_left
                                                      · simp only [Act.put, List.setIfInBounds_toArray, List.set_cons_zero, List.set_cons_succ, i64_w, i32_w]
                                                        rfl
                                                      refine pure_ (i := 4) (N := some 123) (v := ?_) (a' := ?_) #[true, true, true, true, true, false, false, false, false, false, false, false, false, false, false] rfl rfl (any_of HT_.out (by kernel_rfl)) (fun _ _ _ h => h) (Or.inl ⟨by rfl, ?_⟩) ?_ ?_
                                                      rotate_left
                                                      · intro w'
                                                        go_simp
                                                        with_reducible rfl
                                                      rotate_left
                                                      · simp only [Act.put, List.setIfInBounds_toArray, List.set_cons_zero, List.set_cons_succ, i64_w, i32_w]
                                                        rfl
                                                      refine pure_ (i := 7) (N := some 126) (v := ?_) (a' := ?_) #[true, true, true, true, true, false, false, true, false, false, false, false, false, false, false] rfl rfl (any_of HT_.out (by kernel_rfl)) (fun _ _ _ h => h) (Or.inl ⟨by rfl, ?_⟩) ?_ ?_
                                                      rotate_left
                                                      · intro w'
                                                        go_simp
                                                        with_reducible rfl
                                                      rotate_left
                                                      · simp only [Act.put, List.setIfInBounds_toArray, List.set_cons_zero, List.set_cons_succ, i64_w, i32_w]
                                                        rfl
                                                      refine pure_ (i := 8) (N := some 127) (v := ?_) (a' := ?_) #[true, true, true, true, true, false, false, true, true, false, false, false, false, false, false] rfl rfl (any_of HT_.out (by kernel_rfl)) (fun _ _ _ h => h) (Or.inl ⟨by rfl, ?_⟩) ?_ ?_
                                                      rotate_left
                                                      · intro w'
                                                        go_simp
                                                        with_reducible rfl
                                                      rotate_left
                                                      · simp only [Act.put, List.setIfInBounds_toArray, List.set_cons_zero, List.set_cons_succ, i64_w, i32_w]
                                                        rfl
                                                      refine pure_ (i := 9) (N := some 128) (v := ?_) (a' := ?_) #[true, true, true, true, true, false, false, true, true, true, false, false, false, false, false] rfl rfl (any_of HT_.out (by kernel_rfl)) (fun _ _ _ h => h) (Or.inl ⟨by rfl, ?_⟩) ?_ ?_
                                                      rotate_left
                                                      · intro w'
                                                        go_simp
                                                        with_reducible rfl
                                                      rotate_left
                                                      · simp only [Act.put, List.setIfInBounds_toArray, List.set_cons_zero, List.set_cons_succ, i64_w, i32_w]
                                                        rfl
                                                      refine take_ (i := 5) (N := some 124) (v := ?_) (a' := ?_) #[true, true, true, true, true, true, false, true, true, true, false, false, false, false, false] rfl rfl (take_ofW HT_.out HW_.out (by kernel_rfl)) (fun _ _ _ h => h) (Or.inl ⟨by rfl, ?_⟩) hHeld ?_ ?_
                                                      rotate_left
                                                      · rintro w' ⟨s0, s1⟩
                                                        go_simp
                                                        with_reducible rfl
                                                      rotate_left
                                                      · simp only [Act.put, List.setIfInBounds_toArray, List.set_cons_zero, List.set_cons_succ, i64_w, i32_w]
                                                        rfl
                                                      refine pure_ (i := 6) (N := some 125) (v := ?_) (a' := ?_) #[true, true, true, true, true, true, true, true, true, true, false, false, false, false, false] rfl rfl (any_of HT_.out (by kernel_rfl)) (fun _ _ _ h => h) (Or.inl ⟨by rfl, ?_⟩) ?_ ?_
                                                      rotate_left
                                                      · intro w'
                                                        go_simp
                                                        with_reducible rfl
                                                      rotate_left
                                                      · simp only [Act.put, List.setIfInBounds_toArray, List.set_cons_zero, List.set_cons_succ, i64_w, i32_w]
                                                        rfl
                                                      refine take_ (i := 10) (N := some 129) (v := ?_) (a' := ?_) #[true, true, true, true, true, true, true, true, true, true, true, false, false, false, false] rfl rfl (take_ofW HT_.out HW_.out (by kernel_rfl)) (fun _ _ _ h => h) (Or.inl ⟨by rfl, ?_⟩) hHeld ?_ ?_
                                                      rotate_left
                                                      · rintro w' ⟨s0, s1⟩
                                                        go_simp
                                                        with_reducible rfl
                                                      rotate_left
                                                      · simp only [Act.put, List.setIfInBounds_toArray, List.set_cons_zero, List.set_cons_succ, i64_w, i32_w]
                                                        rfl
                                                      refine pure_ (i := 11) (N := some 130) (v := ?_) (a' := ?_) #[true, true, true, true, true, true, true, true, true, true, true, true, false, false, false] rfl rfl (any_of HT_.out (by kernel_rfl)) (fun _ _ _ h => h) (Or.inl ⟨by rfl, ?_⟩) ?_ ?_
                                                      rotate_left
                                                      · intro w'
                                                        go_simp
                                                        with_reducible rfl
                                                      rotate_left
                                                      · simp only [Act.put, List.setIfInBounds_toArray, List.set_cons_zero, List.set_cons_succ, i64_w, i32_w]
                                                        rfl
                                                      refine pure_ (i := 12) (N := some 131) (v := ?_) (a' := ?_) #[true, true, true, true, true, true, true, true, true, true, true, true, true, false, false] rfl rfl (any_of HT_.out (by kernel_rfl)) (fun _ _ _ h => h) (Or.inl ⟨by rfl, ?_⟩) ?_ ?_
                                                      rotate_left
                                                      · intro w'
                                                        go_simp
                                                        with_reducible rfl
                                                      rotate_left
                                                      · simp only [Act.put, List.setIfInBounds_toArray, List.set_cons_zero, List.set_cons_succ, i64_w, i32_w]
                                                        rfl
                                                      refine pure_ (i := 13) (N := some 132) (v := ?_) (a' := ?_) #[true, true, true, true, true, true, true, true, true, true, true, true, true, true, false] rfl rfl (any_of HT_.out (by kernel_rfl)) (fun _ _ _ h => h) (Or.inl ⟨by rfl, ?_⟩) ?_ ?_
                                                      rotate_left
                                                      · intro w'
                                                        go_simp
                                                        with_reducible rfl
                                                      rotate_left
                                                      · simp only [Act.put, List.setIfInBounds_toArray, List.set_cons_zero, List.set_cons_succ, i64_w, i32_w]
                                                        rfl
                                                      refine pure_ (i := 14) (N := some 15) (v := ?_) (a' := ?_) #[true, true, true, true, true, true, true, true, true, true, true, true, true, true, true] rfl rfl (any_of HT_.out (by kernel_rfl)) (fun _ _ _ h => h) (Or.inl ⟨by rfl, ?_⟩) ?_ ?_
                                                      rotate_left
                                                      · intro w'
                                                        go_simp
                                                        with_reducible rfl
                                                      rotate_left
                                                      · simp only [Act.put, List.setIfInBounds_toArray, List.set_cons_zero, List.set_cons_succ, i64_w, i32_w]
                                                        rfl
                                                      refine done_ (done_of HT_.out (by kernel_rfl)) ?_
                                                      try go_wp2
                                                      go_roundg k5
                                                      case measure => have := HJ4.out; have := HK2.out; have := HJ29.out; have := HJ44.out; have := HK5.out; omega
                                                      case rel => exact ⟨(((Int.tmod (rd l0 x16_5) 4) == (Int.tmod (rd l0 a1) 4))), (wrap64 (x16_5 + 1)), (by first | rfl | (simp; done) | (simp [*]; done)), (by first | rfl | (simp; done) | (simp [*]; done)), H', ⟨by have := HJ4.out; have := HK2.out; have := HJ29.out; have := HJ44.out; have := HK5.out; omega⟩, ⟨by (with_reducible repeat (first | apply Kd.R_alloc | apply Kd.R_drewN | apply Kd.R_drew)); exact HO_12.out⟩, ⟨by repeat (first | (with_reducible first | exact HB.out | apply below_alloc | apply pw_below_drewN | apply below_drew1) | exact HB.out)⟩⟩
                                                    · rw [if_neg c57] at H
                                                      exact absurd H (by simp)
                                                  · rw [if_neg c56] at H
                                                    exact absurd H (by simp)
                                                · rw [if_neg c55] at H
                                                  exact absurd H (by simp)
                                              · rw [if_neg c54] at H
                                                exact absurd H (by simp)
                                          · rw [if_neg c51] at H
                                            have c51b0 : decide (x16_5 < (wrap64 (a3 - 1))) = false := decide_eq_false c51
                                            clear c51
                                            have H' := Aside0.mk H
                                            clear H
                                            go_wp2
                                            go_meet
                                            case rel => exact ⟨_, (x15_5), (by first | rfl | (simp; done) | (simp [*]; done)), H', ⟨by have := HJ4.out; have := HK2.out; have := HJ29.out; have := HJ44.out; have := HK5.out; first | omega | exact Nat.le_refl _⟩, ⟨by (with_reducible repeat (first | apply Kd.R_alloc | apply Kd.R_drewN | apply Kd.R_drew)); exact HO_12.out⟩, ⟨by repeat (first | (with_reducible first | exact HB.out | apply below_alloc | apply pw_below_drewN | apply below_drew1) | exact HB.out)⟩⟩
                                    · rw [if_neg c50] at H
                                      have c50b0 : decide (0 < a3) = false := decide_eq_false c50
                                      clear c50
                                      (first | rw [c50b0] | (simp only [i64_w, i32_w]; rw [c50b0]) | skip)
                                      have H' := Aside0.mk H
                                      clear H
                                      go_wp2
                                      go_meet
                                      case rel => exact ⟨_, (false), (by first | rfl | (simp; done) | (simp [*]; done)), H', ⟨by have := HJ4.out; have := HK2.out; have := HJ29.out; have := HJ44.out; first | omega | exact Nat.le_refl _⟩, ⟨by (with_reducible repeat (first | apply Kd.R_alloc | apply Kd.R_drewN | apply Kd.R_drew)); exact HO_12.out⟩, ⟨by repeat (first | (with_reducible first | exact HB.out | apply below_alloc | apply pw_below_drewN | apply below_drew1) | exact HB.out)⟩⟩
                                  case rest =>
                                    clear HC49
                                    try clear c1
                                    try clear c2
                                    try clear p2
                                    try clear q2
                                    try clear hx2
                                    try clear p3
                                    try clear q3
                                    try clear hx3
                                    try clear c4
                                    try clear c5
                                    try clear c6
                                    try clear c6b0
                                    try clear p6
                                    try clear c7
                                    try clear c7b0
                                    try clear c8
                                    try clear c8b0
                                    try clear c8b1
                                    try clear c9
                                    try clear c9b0
                                    try clear c11
                                    try clear c11b0
                                    try clear c12
                                    try clear c12b0
                                    try clear c13
                                    try clear c14
                                    try clear c14b0
                                    try clear c15
                                    try clear c15b0
                                    try clear c16
                                    try clear c16b0
                                    try clear c18
                                    try clear c20
                                    try clear c22
                                    try clear c23
                                    try clear c23b0
                                    try clear c24
                                    try clear c24b0
                                    try clear c26
                                    try clear c28
                                    try clear p29
                                    try clear q29
                                    try clear hx29
                                    try clear p30
                                    try clear q30
                                    try clear hx30
                                    try clear p31
                                    try clear q31
                                    try clear hx31
                                    try clear p32
                                    try clear q32
                                    try clear hx32
                                    try clear c41
                                    try clear c41b0
                                    try clear c42
                                    try clear c42b0
                                    try clear c43
                                    try clear c43b0
                                    try clear c44
                                    try clear c44b0
                                    try clear c44b1
                                    try clear c46
                                    try clear c46b0
                                    try clear c46b1
                                    try clear c48
                                    try clear c50
                                    try clear c50b0
                                    try clear c51
                                    try clear c51b0
                                    try clear c52
                                    try clear c54
                                    try clear c54b0
                                    try clear c55
                                    try clear c55b0
                                    try clear c56
                                    try clear c56b0
                                    try clear c57
                                    try clear c57b0
                                    try clear hx290_0
                                    try clear hx291_0
                                    try clear hx292_0
                                    try clear hx302_0
                                    try clear hx319_0
                                    try clear hx320_0
                                    try clear hx321_0
                                    try clear p2
                                    try clear p29
                                    try clear p290
                                    try clear p291
                                    try clear p292
                                    try clear p3
                                    try clear p30
                                    try clear p302
                                    try clear p31
                                    try clear p319
                                    try clear p320
                                    try clear p321
                                    try clear p6
                                    try clear q2
                                    try clear q29
                                    try clear q290
                                    try clear q291
                                    try clear q292
                                    try clear q3
                                    try clear q30
                                    try clear q302
                                    try clear q31
                                    try clear q319
                                    try clear q320
                                    try clear q321
                                    obtain ⟨kq, x15_48, rfl, HA, HJ48, HO_12, HB⟩ := hcut
                                    cases kq with
                                    | zero => exact absurd HA.out (by simp [tegulalaw47_torn.j6])
                                    | succ kj48 =>
                                      have H := HA.out
                                      clear HA
                                      simp only [tegulalaw47_torn.j6] at H
                                      by_cases c59 : x14_29 < a1
                                      · rw [if_pos c59] at H
                                        have c59b0 : decide (x14_29 < a1) = true := decide_eq_true c59
                                        clear c59
                                        by_cases c60 : (t315.length : Int) = 1
                                        · rw [if_pos c60] at H
                                          have c60b0 : ((t315.length : Int) == 1) = true := beq_iff_eq.mpr c60
                                          have c60b1 : ((t315.length : Int) != 1) = false := bne_eq_false_iff_eq.mpr c60
                                          clear c60
                                          by_cases c61 : 0 < (t315.length : Int)
                                          · rw [if_pos c61] at H
                                            have c61b0 : decide (0 < (t315.length : Int)) = true := decide_eq_true c61
                                            have c61b1 : decide (0 < t315.length) = true := decide_eq_true (by omega)
                                            clear c61
                                            obtain rfl := Option.some.inj H
                                            obtain ⟨Ao62, co62, eo62⟩ := Kd.R_slice HO_12.out
                                            subst eo62
                                            have p322 : 0 ≤ (0 : Int) := (by omega)
                                            have q322 : 0 < (t315.length : Int) := of_decide_eq_true (by first | (with_reducible assumption) | assumption)
                                            obtain ⟨ad322, e322, hx322_0, hx322_1, hx322_2⟩ := at_T33 (Kd.R_reads' HO_12.out).2.2 0 p322 q322
                                            cases e322
                                            have qi322 : (0 < t315.length) = True := eq_true (by omega)
                                            (try rw [show ((0 : Int)).toNat = 0 from rfl] at hx322_0)
                                            (try rw [show 0 * 3 = 0 from rfl] at hx322_0)
                                            (try rw [Addr.add_zero'] at hx322_0)
                                            (try rw [show ((0 : Int)).toNat = 0 from rfl] at hx322_1)
                                            (try rw [show 0 * 3 = 0 from rfl] at hx322_1)
                                            (try rw [Addr.add_zero'] at hx322_1)
                                            (try rw [show ((0 : Int)).toNat = 0 from rfl] at hx322_2)
                                            (try rw [show 0 * 3 = 0 from rfl] at hx322_2)
                                            (try rw [Addr.add_zero'] at hx322_2)
                                            replace p322 := eq_true p322
                                            replace q322 := eq_true q322
                                            go_wp2
                                            go_ret
                                            exact ⟨by first | rfl | (simp [errW_none, errW_some] <;> rfl) | (simp [*, errW_none, errW_some] <;> rfl), by repeat (first | (with_reducible first | exact HB.out | apply below_alloc | apply pw_below_drewN | apply below_drew1) | exact HB.out)⟩
                                          · rw [if_neg c61] at H
                                            exact absurd H (by simp)
                                        · rw [if_neg c60] at H
                                          have c60b0 : ((t315.length : Int) == 1) = false := beq_eq_false_iff_ne.mpr c60
                                          have c60b1 : ((t315.length : Int) != 1) = true := bne_iff_ne.mpr c60
                                          obtain rfl := Option.some.inj H
                                          obtain ⟨Ao63, co63, eo63⟩ := Kd.R_slice HO_12.out
                                          subst eo63
                                          go_wp2
                                          go_ret
                                          exact ⟨by first | rfl | (simp [errW_none, errW_some] <;> rfl) | (simp [*, errW_none, errW_some] <;> rfl), by repeat (first | (with_reducible first | exact HB.out | apply below_alloc | apply pw_below_drewN | apply below_drew1) | exact HB.out)⟩
                                      · rw [if_neg c59] at H
                                        have c59b0 : decide (x14_29 < a1) = false := decide_eq_false c59
                                        clear c59
                                        by_cases c64 : x15_48 = true
                                        · subst c64
                                          have H1 : (if (t315.length : Int) = 1 then (if 0 < (t315.length : Int) then (if ((rd_T33 t315 0).f1) = (l0.length : Int) then (some (((rd_T33 t315 0).f0) == 3)) else (some false)) else (none)) else (some false)) = some r := by rw [if_pos rfl] at H; exact H
                                          clear H
                                          have H := H1
                                          clear H1
                                          by_cases c65 : (t315.length : Int) = 1
                                          · rw [if_pos c65] at H
                                            have c65b0 : ((t315.length : Int) == 1) = true := beq_iff_eq.mpr c65
                                            have c65b1 : ((t315.length : Int) != 1) = false := bne_eq_false_iff_eq.mpr c65
                                            clear c65
                                            by_cases c66 : 0 < (t315.length : Int)
                                            · rw [if_pos c66] at H
                                              have c66b0 : decide (0 < (t315.length : Int)) = true := decide_eq_true c66
                                              have c66b1 : decide (0 < t315.length) = true := decide_eq_true (by omega)
                                              clear c66
                                              by_cases c67 : ((rd_T33 t315 0).f1) = (l0.length : Int)
                                              · rw [if_pos c67] at H
                                                have c67b0 : (((rd_T33 t315 0).f1) == (l0.length : Int)) = true := beq_iff_eq.mpr c67
                                                have c67b1 : (((rd_T33 t315 0).f1) != (l0.length : Int)) = false := bne_eq_false_iff_eq.mpr c67
                                                clear c67
                                                obtain rfl := Option.some.inj H
                                                obtain ⟨Ao68, co68, eo68⟩ := Kd.R_slice HO_12.out
                                                subst eo68
                                                have p323 : 0 ≤ (0 : Int) := (by omega)
                                                have q323 : 0 < (t315.length : Int) := of_decide_eq_true (by first | (with_reducible assumption) | assumption)
                                                obtain ⟨ad323, e323, hx323_0, hx323_1, hx323_2⟩ := at_T33 (Kd.R_reads' HO_12.out).2.2 0 p323 q323
                                                cases e323
                                                have qi323 : (0 < t315.length) = True := eq_true (by omega)
                                                (try rw [show ((0 : Int)).toNat = 0 from rfl] at hx323_0)
                                                (try rw [show 0 * 3 = 0 from rfl] at hx323_0)
                                                (try rw [Addr.add_zero'] at hx323_0)
                                                (try rw [show ((0 : Int)).toNat = 0 from rfl] at hx323_1)
                                                (try rw [show 0 * 3 = 0 from rfl] at hx323_1)
                                                (try rw [Addr.add_zero'] at hx323_1)
                                                (try rw [show ((0 : Int)).toNat = 0 from rfl] at hx323_2)
                                                (try rw [show 0 * 3 = 0 from rfl] at hx323_2)
                                                (try rw [Addr.add_zero'] at hx323_2)
                                                replace p323 := eq_true p323
                                                replace q323 := eq_true q323
                                                have p324 : 0 ≤ (0 : Int) := (by omega)
                                                have q324 : 0 < (t315.length : Int) := of_decide_eq_true (by first | (with_reducible assumption) | assumption)
                                                obtain ⟨ad324, e324, hx324_0, hx324_1, hx324_2⟩ := at_T33 (Kd.R_reads' HO_12.out).2.2 0 p324 q324
                                                obtain rfl : ad323 = ad324 := (by injection e324)
                                                have qi324 : (0 < t315.length) = True := eq_true (by omega)
                                                (try rw [show ((0 : Int)).toNat = 0 from rfl] at hx324_0)
                                                (try rw [show 0 * 3 = 0 from rfl] at hx324_0)
                                                (try rw [Addr.add_zero'] at hx324_0)
                                                (try rw [show ((0 : Int)).toNat = 0 from rfl] at hx324_1)
                                                (try rw [show 0 * 3 = 0 from rfl] at hx324_1)
                                                (try rw [Addr.add_zero'] at hx324_1)
                                                (try rw [show ((0 : Int)).toNat = 0 from rfl] at hx324_2)
                                                (try rw [show 0 * 3 = 0 from rfl] at hx324_2)
                                                (try rw [Addr.add_zero'] at hx324_2)
                                                replace p324 := eq_true p324
                                                replace q324 := eq_true q324
                                                go_wp2
                                                go_ret
                                                exact ⟨by first | rfl | (simp [errW_none, errW_some] <;> rfl) | (simp [*, errW_none, errW_some] <;> rfl), by repeat (first | (with_reducible first | exact HB.out | apply below_alloc | apply pw_below_drewN | apply below_drew1) | exact HB.out)⟩
                                              · rw [if_neg c67] at H
                                                have c67b0 : (((rd_T33 t315 0).f1) == (l0.length : Int)) = false := beq_eq_false_iff_ne.mpr c67
                                                have c67b1 : (((rd_T33 t315 0).f1) != (l0.length : Int)) = true := bne_iff_ne.mpr c67
                                                obtain rfl := Option.some.inj H
                                                obtain ⟨Ao69, co69, eo69⟩ := Kd.R_slice HO_12.out
                                                subst eo69
                                                have p323 : 0 ≤ (0 : Int) := (by omega)
                                                have q323 : 0 < (t315.length : Int) := of_decide_eq_true (by first | (with_reducible assumption) | assumption)
                                                obtain ⟨ad323, e323, hx323_0, hx323_1, hx323_2⟩ := at_T33 (Kd.R_reads' HO_12.out).2.2 0 p323 q323
                                                cases e323
                                                have qi323 : (0 < t315.length) = True := eq_true (by omega)
                                                (try rw [show ((0 : Int)).toNat = 0 from rfl] at hx323_0)
                                                (try rw [show 0 * 3 = 0 from rfl] at hx323_0)
                                                (try rw [Addr.add_zero'] at hx323_0)
                                                (try rw [show ((0 : Int)).toNat = 0 from rfl] at hx323_1)
                                                (try rw [show 0 * 3 = 0 from rfl] at hx323_1)
                                                (try rw [Addr.add_zero'] at hx323_1)
                                                (try rw [show ((0 : Int)).toNat = 0 from rfl] at hx323_2)
                                                (try rw [show 0 * 3 = 0 from rfl] at hx323_2)
                                                (try rw [Addr.add_zero'] at hx323_2)
                                                replace p323 := eq_true p323
                                                replace q323 := eq_true q323
                                                go_wp2
                                                go_ret
                                                exact ⟨by first | rfl | (simp [errW_none, errW_some] <;> rfl) | (simp [*, errW_none, errW_some] <;> rfl), by repeat (first | (with_reducible first | exact HB.out | apply below_alloc | apply pw_below_drewN | apply below_drew1) | exact HB.out)⟩
                                            · rw [if_neg c66] at H
                                              exact absurd H (by simp)
                                          · rw [if_neg c65] at H
                                            have c65b0 : ((t315.length : Int) == 1) = false := beq_eq_false_iff_ne.mpr c65
                                            have c65b1 : ((t315.length : Int) != 1) = true := bne_iff_ne.mpr c65
                                            obtain rfl := Option.some.inj H
                                            obtain ⟨Ao70, co70, eo70⟩ := Kd.R_slice HO_12.out
                                            subst eo70
                                            go_wp2
                                            go_ret
                                            exact ⟨by first | rfl | (simp [errW_none, errW_some] <;> rfl) | (simp [*, errW_none, errW_some] <;> rfl), by repeat (first | (with_reducible first | exact HB.out | apply below_alloc | apply pw_below_drewN | apply below_drew1) | exact HB.out)⟩
                                        · replace c64 := Bool.eq_false_iff.mpr c64
                                          subst c64
                                          have H1 : (some ((t315.length : Int) == 0)) = some r := by rw [if_neg (show ¬ (false = true) by decide)] at H; exact H
                                          clear H
                                          have H := H1
                                          clear H1
                                          obtain rfl := Option.some.inj H
                                          obtain ⟨Ao71, co71, eo71⟩ := Kd.R_slice HO_12.out
                                          subst eo71
                                          go_wp2
                                          go_ret
                                          exact ⟨by first | rfl | (simp [errW_none, errW_some] <;> rfl) | (simp [*, errW_none, errW_some] <;> rfl), by repeat (first | (with_reducible first | exact HB.out | apply below_alloc | apply pw_below_drewN | apply below_drew1) | exact HB.out)⟩
                      · rw [if_neg c28] at H
                        exact absurd H (by simp)
                    · rw [if_neg c26] at H
                      exact absurd H (by simp)
                  · rw [if_neg c24] at H
                    exact absurd H (by simp)
                · rw [if_neg c23] at H
                  exact absurd H (by simp)
              · rw [if_neg c22] at H
                exact absurd H (by simp)

end Go.Proofs.Ytidghmgaaenihaa.Q

/-! part PTorn2 -/
namespace Go.Proofs.Ytidghmgaaenihaa.Q
open Go.RowKit Go.Proofs.YtidghmgaaenihaaW.PrintWords Go.Proofs.YtidghmgaaenihaaW.PrintLast Go.Proofs.YtidghmgaaenihaaW.PrintMore
set_option linter.unusedVariables false
set_option linter.unusedSimpArgs false
set_option linter.unusedSectionVars false

def regOf (l : List Int) (i : Nat) : Int := (l.getD i 0) % 4
theorem wrap_small {x : Int} (h0 : 0 ≤ x) (h1 : x < 9223372036854775807) : wrap64 x = x := by
  have := wrap_succ (x := x - 1)
  by_cases h : x = 0
  · subst h; decide +kernel
  · have := wrap_succ (x := x - 1) (by omega) (by omega)
    rwa [show x - 1 + 1 = x by omega] at this
theorem reg_wrap {l : List Int} (hb : ∀ i, 0 ≤ l.getD i 0 ∧ l.getD i 0 < 256) (i : Nat) : wrap64 (Int.tmod (rd l (i : Int)) 4) = regOf l i := by
  have h := hb i
  unfold rd regOf
  rw [Int.toNat_natCast, Int.tmod_eq_emod_of_nonneg h.1]
  exact wrap_small (by omega) (by omega)
theorem reg_tmod {l : List Int} (hb : ∀ i, 0 ≤ l.getD i 0 ∧ l.getD i 0 < 256) (i : Nat) : Int.tmod (rd l (i : Int)) 4 = regOf l i := by
  have h := hb i
  unfold rd regOf
  rw [Int.toNat_natCast, Int.tmod_eq_emod_of_nonneg h.1]
theorem reg_nonneg (l : List Int) (i : Nat) : 0 ≤ regOf l i := by unfold regOf; omega

section
variable {l : List Int} (hn : l.length ≤ 12) (hb : ∀ i, 0 ≤ l.getD i 0 ∧ l.getD i 0 < 256) {k : Nat} (hk : k < l.length) {other : Int} {got : Nat} (hgot : got ≤ l.length)
include hn hb hk hgot
theorem torn_l2 {F : List S33} {b : Int} (m : Nat) (hg0 : 0 < got) : ∀ d i (y : Bool), got - 1 - i = d → i ≤ got - 1 ∨ got - 1 < i →
    ∃ y' : Bool, tegulalaw47_torn.l2 (d + (m + 2)) l k got l.length F b y i = tegulalaw47_torn.j6 (m + 1) k l.length F b y' ∧ (y' = true ↔ (y = true ∨ ∃ j, i ≤ j ∧ j < got - 1 ∧ regOf l j = regOf l k))
  | 0, i, y, hd, _ => by
    refine ⟨y, ?_, ⟨fun h => .inl h, fun h => h.elim id (fun ⟨j, h1, h2, _⟩ => absurd h1 (by omega))⟩⟩
    rw [show 0 + (m + 2) = (m + 1) + 1 by omega, tegulalaw47_torn.l2, wrap_small (x := (got : Int) - 1) (by omega) (by omega), if_neg (by omega)]
  | d + 1, i, y, hd, _ => by
    have e : tegulalaw47_torn.l2 (d + 1 + (m + 2)) l k got l.length F b y i = tegulalaw47_torn.l2 (d + (m + 2)) l k got l.length F b (y || (regOf l i == regOf l k)) ((i + 1 : Nat) : Int) := by
      rw [show d + 1 + (m + 2) = (d + (m + 2)) + 1 by omega, tegulalaw47_torn.l2, wrap_small (x := (got : Int) - 1) (by omega) (by omega), if_pos (by omega), wrap_succ (by omega) (by omega)]
      cases y with
      | true => simp
      | false =>
        rw [if_neg (by decide), if_pos (by omega), if_pos (by omega), if_pos (by omega), if_pos (by omega), reg_tmod hb, reg_tmod hb]
        simp
    obtain ⟨y', h1, h2⟩ := torn_l2 (F := F) (b := b) m hg0 d (i + 1) (y || (regOf l i == regOf l k)) (by omega) (by omega)
    refine ⟨y', e.trans h1, h2.trans ?_⟩
    constructor
    · rintro (h | ⟨j, h1, h2, h3⟩)
      · rw [Bool.or_eq_true] at h
        rcases h with h | h
        · exact .inl h
        · exact .inr ⟨i, Nat.le_refl _, by omega, by simpa using h⟩
      · exact .inr ⟨j, by omega, h2, h3⟩
    · rintro (h | ⟨j, h1, h2, h3⟩)
      · exact .inl (by rw [h]; rfl)
      · by_cases hj : j = i
        · subst hj; exact .inl (by rw [h3]; simp)
        · exact .inr ⟨j, by omega, h2, h3⟩
theorem torn_l1 {F : List S33} {err : Int} (m : Nat) : ∀ d i, l.length - i = d → got ≤ i → i ≤ l.length → (∀ j, got ≤ j → j < i → regOf l j ≠ other) →
    ∃ b : Nat, tegulalaw47_torn.l1 (d + (m + 2)) l k other got l.length F err i = tegulalaw47_torn.j3 (l.length - b + (m + 1)) l k got l.length F err b ∧ got ≤ b ∧ b ≤ l.length ∧ (∀ j, got ≤ j → j < b → regOf l j ≠ other) ∧ (b < l.length → regOf l b = other)
  | 0, i, hd, h1, h2, h3 => by
    refine ⟨i, ?_, h1, h2, h3, fun h => by omega⟩
    rw [show 0 + (m + 2) = (m + 1) + 1 by omega, tegulalaw47_torn.l1, if_neg (by omega), show l.length - i + (m + 1) = m + 1 by omega]
  | d + 1, i, hd, h1, h2, h3 => by
    by_cases hr : regOf l i = other
    · refine ⟨i, ?_, h1, h2, h3, fun _ => hr⟩
      rw [show d + 1 + (m + 2) = (d + (m + 2)) + 1 by omega, tegulalaw47_torn.l1, if_pos (by omega), if_pos (by omega), if_pos (by omega), reg_wrap hb, if_pos hr, show l.length - i + (m + 1) = d + (m + 2) by omega]
    · obtain ⟨b, e, hh⟩ := torn_l1 (F := F) (err := err) m d (i + 1) (by omega) (by omega) (by omega) (fun j hj1 hj2 => by
        by_cases hj : j = i
        · subst hj; exact hr
        · exact h3 j hj1 (by omega))
      refine ⟨b, ?_, hh⟩
      rw [show d + 1 + (m + 2) = (d + (m + 2)) + 1 by omega, tegulalaw47_torn.l1, if_pos (by omega), if_pos (by omega), if_pos (by omega), reg_wrap hb, if_neg hr, wrap_succ (by omega) (by omega)]
      exact e
theorem torn_l0 (m : Nat) : ∀ d i, l.length - i = d → i ≤ l.length →
    tegulalaw47_torn.l0 (d + (m + 1)) l k other got l.length (wEv (regOf l) i) i = tegulalaw47_torn.l1 m l k other got l.length (checkP (tornL (regOf l) l.length k other got)).1 (checkP (tornL (regOf l) l.length k other got)).2 got
  | 0, i, hd, hi => by
    obtain rfl : i = l.length := by omega
    have hw := wEv_len (regOf l) l.length
    rw [show 0 + (m + 1) = m + 1 by omega, tegulalaw47_torn.l0, if_neg (by omega), if_pos (by omega), Option.bind_some, if_pos (by omega), if_pos (by omega), reg_wrap hb, wrap_succ (by omega) (by omega), wrap_succ (by omega) (by omega)]
    unfold tegulalaw47_read.f
    have ht : (tornL (regOf l) l.length k other got).length = 2 * l.length + 5 := by simp [tornL, hw]
    rw [Option.bind_some, if_pos (by simp [hw]; omega), Option.bind_some, Option.bind_some, if_pos (by simp [hw]; omega)]
    have e : durable_Check.f (tornL (regOf l) l.length k other got) = some (checkP (tornL (regOf l) l.length k other got)) := by rw [durable_Check.f, if_pos (by rw [ht]; omega)]
    have e2 := e
    unfold tornL cutE at e2
    rw [e2]
    rfl
  | d + 1, i, hd, hi => by
    have hw := wEv_len (regOf l) i
    rw [show d + 1 + (m + 1) = (d + (m + 1)) + 1 by omega, tegulalaw47_torn.l0, if_pos (by omega), if_pos (by omega), if_pos (by omega), reg_wrap hb, wrap_succ (by omega) (by omega)]
    unfold tegulalaw47_write.f
    rw [Option.bind_some, if_pos (by simp [hw]; omega)]
    exact torn_l0 m d (i + 1) (by omega) (by omega)
theorem torn_true (ho : 0 ≤ other) : ∃ m, tegulalaw47_torn.f m l k other got = some true := by
  have hout : ∃ m, tegulalaw47_torn.j0 m l k other got l.length false = some true ∨ True := ⟨0, .inr trivial⟩
  have main : other ≠ regOf l k → (0 < got → regOf l (got - 1) = other) → tegulalaw47_torn.j0 100 l k other got l.length false = some true := by
    intro hne hg
    have h0 := torn_l0 hn hb hk hgot (other := other) (99 - l.length - 1) l.length 0 (by omega) (by omega)
    rw [show l.length + (99 - l.length - 1 + 1) = 99 by omega] at h0
    rw [tegulalaw47_torn.j0, if_neg (by decide)]
    refine Eq.trans h0 ?_
    clear h0
    have hchk := torn_check (r := regOf l) (reg_nonneg l) ho hk hne hgot hg
    rw [checkQ_eq] at hchk
    generalize checkP (tornL (regOf l) l.length k other got) = R at hchk
    obtain ⟨F, err⟩ := R
    obtain ⟨hF, herr⟩ := Prod.mk.inj hchk
    simp only at hF herr
    subst herr
    obtain ⟨b, h1, hb1, hb2, hb3, hb4⟩ := torn_l1 hn hb hk hgot (F := F) (err := 0) (other := other) (99 - l.length - 1 - (l.length - got) - 2) (l.length - got) got rfl (Nat.le_refl _) hgot (fun j h1 h2 => absurd h1 (by omega))
    rw [show l.length - got + (99 - l.length - 1 - (l.length - got) - 2 + 2) = 99 - l.length - 1 by omega] at h1
    refine Eq.trans h1 ?_
    clear h1
    obtain ⟨q, hq⟩ : ∃ q, l.length - b + (99 - l.length - 1 - (l.length - got) - 2 + 1) = q + 20 + (got - 1 - (k + 1)) := ⟨l.length - b + (99 - l.length - 1 - (l.length - got) - 2 + 1) - 20 - (got - 1 - (k + 1)), by omega⟩
    rw [hq, show q + 20 + (got - 1 - (k + 1)) = (got - 1 - (k + 1) + (q + 16 + 2)) + 1 + 1 by omega, tegulalaw47_torn.j3, if_pos rfl, tegulalaw47_torn.j4]
    -- what the two places are
    have hx : (firstI (l.length + 2) (tornP1 (regOf l) l.length k got) = -1 ∧ ∀ j, k < j → j < got → regOf l j ≠ regOf l k) ∨ ∃ x : Nat, firstI (l.length + 2) (tornP1 (regOf l) l.length k got) = x ∧ k < x ∧ x < got ∧ regOf l x = regOf l k := by
      rcases firstI_spec (n := l.length + 2) (p := tornP1 (regOf l) l.length k got) with ⟨e, h⟩ | ⟨i, e, hi, hp, _⟩
      · refine .inl ⟨e, fun j h1 h2 h3 => ?_⟩
        have := h j (by omega)
        unfold tornP1 at this
        rw [h3] at this
        simp at this
        omega
      · refine .inr ⟨i, e, ?_⟩
        unfold tornP1 at hp
        simp at hp
        omega
    have hy : (firstI (l.length + 2) (tornP2 (regOf l) l.length k other got) = -1 ∧ ¬ b < k) ∨ (firstI (l.length + 2) (tornP2 (regOf l) l.length k other got) = b ∧ b < k) := by
      rcases firstI_spec (n := l.length + 2) (p := tornP2 (regOf l) l.length k other got) with ⟨e, h⟩ | ⟨i, e, hi, hp, hm⟩
      · refine .inl ⟨e, fun hlt => ?_⟩
        have := h b (by omega)
        unfold tornP2 at this
        rw [hb4 (by omega)] at this
        simp at this
        omega
      · have hp0 := hp
        unfold tornP2 at hp
        simp at hp
        obtain ⟨p1, p2, p3, p4⟩ := hp
        have hik : i ≠ k := fun q => hne (by rw [← p2, q])
        have hbi : b ≤ i := by
          rcases Nat.lt_or_ge i b with h | h
          · exact absurd p2 (hb3 i p3 h)
          · exact h
        have hib : i ≤ b := by
          rcases Nat.lt_or_ge b i with h | h
          · have := hm b h
            unfold tornP2 at this
            rw [hb4 (by omega)] at this
            simp at this
            omega
          · exact h
        obtain rfl : i = b := by omega
        exact .inr ⟨e, by omega⟩
    -- the end
    have fin : ∀ (m : Nat) (y : Bool), (y = true ↔ ∃ j, k < j ∧ j < got ∧ regOf l j = regOf l k) → tegulalaw47_torn.j6 (m + 1) k l.length F b y = some true := by
      intro m y hyy
      rw [tegulalaw47_torn.j6]
      rcases hy with ⟨e2, hb5⟩ | ⟨e2, hb5⟩
      · rw [if_neg (by omega)]
        rcases hx with ⟨e1, hno⟩ | ⟨x, e1, x1, x2, x3⟩
        · have : y = false := by
            cases y with
            | false => rfl
            | true => obtain ⟨j, h1, h2, h3⟩ := hyy.1 rfl; exact absurd h3 (hno j h1 h2)
          subst this
          rw [e1, e2] at hF
          have : F = [] := List.map_eq_nil_iff.1 hF
          subst this
          rfl
        · have : y = true := hyy.2 ⟨x, x1, x2, x3⟩
          subst this
          rw [e1, e2] at hF
          have hF2 : F.map to32 = [⟨3, l.length, x⟩] := by rw [hF]; unfold tornF; rw [if_pos (by omega), if_neg (by omega)]; rfl
          match F, hF2 with
          | [f], hF2 =>
            have hf := (List.cons.inj hF2).1
            have g0 : f.f0 = 3 := congrArg S32.f0 hf
            have g1 : f.f1 = l.length := congrArg S32.f1 hf
            rw [if_pos rfl, if_pos (by simp), if_pos (by simp)]
            show (if f.f1 = (l.length : Int) then some (f.f0 == 3) else some false) = some true
            rw [if_pos g1, g0]; rfl
          | [], hF2 => simp at hF2
          | _ :: _ :: _, hF2 => simp at hF2
      · have hnx : firstI (l.length + 2) (tornP1 (regOf l) l.length k got) = -1 := by
          rcases hx with ⟨e1, _⟩ | ⟨x, e1, x1, x2, x3⟩
          · exact e1
          · omega
        rw [if_pos (by omega)]
        rw [hnx, e2] at hF
        have hF2 : F.map to32 = [⟨3, l.length + 1, b⟩] := by rw [hF]; unfold tornF; rw [if_neg (by omega), if_pos (by omega)]; rfl
        match F, hF2 with
        | [f], hF2 =>
          have hf := (List.cons.inj hF2).1
          have g0 : f.f0 = 3 := congrArg S32.f0 hf
          have g1 : f.f1 = l.length + 1 := congrArg S32.f1 hf
          have g2 : f.f2 = b := congrArg S32.f2 hf
          rw [if_pos (by simp), if_pos (by simp), wrap_succ (by omega) (by omega)]
          show some (f.f0 == 3 && (f.f1 == (l.length : Int) + 1 && f.f2 == (b : Int))) = some true
          rw [g0, g1, g2]; simp
        | [], hF2 => simp at hF2
        | _ :: _ :: _, hF2 => simp at hF2
    have hlen : ¬ (F.length : Int) > 1 := by
      have e : F.length = (F.map to32).length := by simp
      rw [e, hF]
      rcases hy with ⟨e2, hb5⟩ | ⟨e2, hb5⟩
      · rw [e2]
        unfold tornF
        rw [if_neg (show ¬ (0 : Int) ≤ -1 by decide)]
        split <;> simp
      · rcases hx with ⟨e1, _⟩ | ⟨x, e1, x1, x2, x3⟩
        · rw [e1, e2]
          unfold tornF
          rw [if_neg (show ¬ (0 : Int) ≤ -1 by decide)]
          split <;> simp
        · omega
    rw [decide_eq_false hlen, if_neg (by decide)]
    by_cases hg0 : 0 < got
    · rw [if_pos (by omega), wrap_succ (by omega) (by omega)]
      obtain ⟨y', h1, h2⟩ := torn_l2 hn hb hk hgot (F := F) (b := b) (q + 16) hg0 (got - 1 - (k + 1)) (k + 1) false rfl (by omega)
      rw [show ((k : Int) + 1) = ((k + 1 : Nat) : Int) by omega]
      refine Eq.trans h1 (fin _ _ (h2.trans ?_))
      constructor
      · rintro (h | ⟨j, j1, j2, j3⟩)
        · cases h
        · exact ⟨j, by omega, by omega, j3⟩
      · rintro ⟨j, j1, j2, j3⟩
        refine .inr ⟨j, by omega, ?_, j3⟩
        rcases Nat.lt_or_ge j (got - 1) with h | h
        · exact h
        · have : j = got - 1 := by omega
          subst this
          exact absurd ((hg hg0).symm.trans j3) hne
    · rw [if_neg (by omega)]
      refine fin _ _ ⟨fun h => (by cases h), fun ⟨j, j1, j2, j3⟩ => (by omega)⟩
  refine ⟨100, ?_⟩
  unfold tegulalaw47_torn.f
  rw [if_pos (by omega), if_pos (by omega), reg_wrap hb]
  by_cases hne : other = regOf l k
  · rw [if_pos hne, tegulalaw47_torn.j0, if_pos rfl]
  · rw [if_neg hne]
    by_cases hg0 : 0 < got
    · rw [if_pos (by omega), wrap_small (by omega) (by omega), if_pos (by omega), if_pos (by omega)]
      have e : ((got : Int) - 1) = ((got - 1 : Nat) : Int) := by omega
      rw [e, reg_wrap hb]
      by_cases hr : regOf l (got - 1) = other
      · rw [show (regOf l (got - 1) != other) = false by simp [hr]]
        exact main hne (fun _ => hr)
      · rw [show (regOf l (got - 1) != other) = true by simp [hr], tegulalaw47_torn.j0, if_pos rfl]
    · rw [if_neg (by omega)]
      exact main hne (fun h => absurd h hg0)
end
end Go.Proofs.Ytidghmgaaenihaa.Q

/-! part PLaw6 -/
namespace Go.Proofs.Ytidghmgaaenihaa.Q
open Go.RowKit Go.Proofs.YtidghmgaaenihaaW.PrintWords Go.Proofs.YtidghmgaaenihaaW.PrintLast Go.Proofs.YtidghmgaaenihaaW.PrintMore
set_option linter.unusedVariables false
set_option linter.unusedSimpArgs false
theorem awake47_true6 : tegulalaw47_awake.f = some true := by rfl
theorem torn_calls (A : Option Addr) (c : Nat) (l : List Int) (w : World) (hr : Kd.C (Kd.int .u8) w A l.length l) (hc : l.length ≤ c) (hn0 : l.length ≠ 0) (hn : l.length ≤ 12) (hb : ∀ i, 0 ≤ l.getD i 0 ∧ l.getD i 0 < 256) (x0 x1 x2 : Int) (h0 : 0 ≤ x0 ∧ x0 < 256) (h1 : 0 ≤ x1 ∧ x1 < 256) (h2 : 0 ≤ x2 ∧ x2 < 256) :
    Calls Try.prog 26 #[.slice A l.length c, .int .i64 (x0 % l.length), .int .i64 (x1 % 4), .int .i64 (x2 % ((l.length : Int) + 1))] w fun e w' => e = .returned (.bool true) ∧ Below w.heap.size w w' := by
  have e0 : x0 % (l.length : Int) = ((x0 % (l.length : Int)).toNat : Int) := (Int.toNat_of_nonneg (Int.emod_nonneg _ (by omega))).symm
  have e2 : x2 % ((l.length : Int) + 1) = ((x2 % ((l.length : Int) + 1)).toNat : Int) := (Int.toNat_of_nonneg (Int.emod_nonneg _ (by omega))).symm
  have k0 := Int.emod_lt_of_pos x0 (show (0 : Int) < l.length by omega)
  have k2 := Int.emod_lt_of_pos x2 (show (0 : Int) < (l.length : Int) + 1 by omega)
  rw [e0, e2]
  rw [e0] at k0
  rw [e2] at k2
  obtain ⟨m, hm⟩ := torn_true hn hb (k := (x0 % (l.length : Int)).toNat) (by omega) (other := x1 % 4) (got := (x2 % ((l.length : Int) + 1)).toNat) (by omega) (by omega)
  exact tegulalaw47_torn.calls m A c l _ _ _ true w hr hc hm
set_option maxHeartbeats 2000000 in
set_option maxRecDepth 100000 in
theorem law6_walk (A : Option Addr) (c : Nat) (l : List Int) (x0 x1 x2 : Int) (w : World) (hr : Kd.C (Kd.int .u8) w A l.length l) (hc : l.length ≤ c) (hb : ∀ i, 0 ≤ l.getD i 0 ∧ l.getD i 0 < 256) (h0 : 0 ≤ x0 ∧ x0 < 256) (h1 : 0 ≤ x1 ∧ x1 < 256) (h2 : 0 ≤ x2 ∧ x2 < 256) :
    Calls Try.prog 6 #[.slice A l.length c, .agg #[.int .u8 x0, .int .u8 x1, .int .u8 x2]] w fun e w' => e = .returned (.bool true) ∧ Below w.heap.size w w' := by
  have HR := Aside0.mk hr
  have HBB := Aside0.mk hb
  clear hr hb
  have hlen : l.length ≤ 9223372036854775807 := HR.out.2.1
  by_cases hz : l.length = 0
  · have hz2 : (l.length : Int) = 0 := by omega
    go_enter Try.func6, Try.ntmps6
    go_wp2_with (go_at_call 19; (with_reducible refine (tegulalaw47_awake.calls true _ awake47_true6).mono ?_); rintro e w1 ⟨rfl, hB⟩)
    go_ret
    exact ⟨rfl, below_step (below_alloc (Below.refl _ _) _) hB⟩
  · have hz2 : ¬ (l.length : Int) = 0 := by omega
    have hz3 : ((l.length : Int) == 0) = false := by simpa using hz2
    by_cases hbig : l.length > 12
    · have hb2 : (l.length : Int) > 12 := by omega
      go_enter Try.func6, Try.ntmps6
      go_wp2_with (go_at_call 19; (with_reducible refine (tegulalaw47_awake.calls true _ awake47_true6).mono ?_); rintro e w1 ⟨rfl, hB⟩)
      go_ret
      exact ⟨rfl, below_step (below_alloc (Below.refl _ _) _) hB⟩
    · have hb2 : ¬ (l.length : Int) > 12 := by omega
      have hb4 : decide ((l.length : Int) > 12) = false := decide_eq_false hb2
      have hb3 : ¬ (l.length : Int) + 1 = 0 := by omega
      have HT := Aside0.mk (fun (W : World) (h : Kd.C (Kd.int .u8) W A l.length l) => torn_calls A c l W h hc hz (by omega) HBB.out x0 x1 x2 h0 h1 h2)
      go_enter Try.func6, Try.ntmps6
      go_wp2_with (go_at_call 19; (with_reducible refine (tegulalaw47_awake.calls true _ awake47_true6).mono ?_); rintro e w1 ⟨rfl, hB⟩)
      have BK := Aside0.mk (blk_old (blk_new w (.cells #[.int .u8 x0, .int .u8 x1, .int .u8 x2] 45)) hB)
      have HB := Aside0.mk (below_step (below_alloc (Below.refl _ _) _) hB)
      have d0 : w1.cell? ⟨w.heap.size, 0, none⟩ = some (.int .u8 x0) := (blk_cell BK.out 0).trans rfl
      have d1 : w1.cell? ⟨w.heap.size, 1, none⟩ = some (.int .u8 x1) := (blk_cell BK.out 1).trans rfl
      have d2 : w1.cell? ⟨w.heap.size, 2, none⟩ = some (.int .u8 x2) := (blk_cell BK.out 2).trans rfl
      have q0 := after_cell d0
      have q1 := after_cell d1
      have q2 := after_cell d2
      have HTU := Aside0.mk (fun u : After w1 => HT.out u.1 (Kd.C_below HR.out (below_step HB.out u.2)))
      clear hB
      refine region_after (by kernel_rfl) (by kernel_rfl) ?_
      repeat (go_big_quiet_step ((go_at_call 26; exact after_call (HTU.out _))))
      refine wpQuiet_nil ?_
      rintro _ ⟨u, rfl⟩
      obtain ⟨W1, hu⟩ := u
      simp only
      have HU := Aside0.mk (below_step HB.out hu)
      clear hu
      go_wp2
      go_ret
      exact ⟨rfl, HU.out⟩
end Go.Proofs.Ytidghmgaaenihaa.Q

/-! part HOpen2 -/
namespace Go.Proofs.Ytidghmgaaenihaa.Q
open Go.RowKit Go.Proofs.YtidghmgaaenihaaW.PrintWords Go.Proofs.YtidghmgaaenihaaW.PrintLast Go.Proofs.YtidghmgaaenihaaW.PrintMore
open Go.ChangeShapes Go.WideShapes Go.Deep Go.WideMaps
set_option linter.unusedVariables false
theorem arr45 : ArrKey Try.prog 45 5 3 := ⟨Try.underlying45, by kernel_rfl, by kernel_rfl, by kernel_rfl⟩
theorem mapM_each {α β : Type} {f : α → Option β} : ∀ (L : List α) (ys : List β), L.mapM f = some ys → ∀ i ∈ L, ∃ y, f i = some y
  | [], _, _, i, hi => by cases hi
  | a :: L, ys, h, i, hi => by
    rw [List.mapM_cons] at h
    simp only [bind, Option.bind_eq_some_iff, pure, Option.some.injEq] at h
    obtain ⟨y, hy, zs, hzs, rfl⟩ := h
    rcases List.mem_cons.1 hi with rfl | hi
    · exact ⟨y, hy⟩
    · exact mapM_each L zs hzs i hi
theorem u8_range {a : Int} (h : (Lit.int .u8 a).wf = true) : 0 ≤ a ∧ a < 256 := by
  have h2 : IntKind.u8.min ≤ a ∧ a ≤ IntKind.u8.max := by simpa [Lit.wf] using h
  have e1 : IntKind.u8.min = 0 := by decide
  have e2 : IntKind.u8.max = 255 := by decide
  omega
set_option maxRecDepth 100000 in
theorem open_arr3 {H : Type} {enc : TypeId × Value → H} {W : World} {base b0 : Nat} {spare : Nat → Bool} {held : Bool} {v : Value} {d : DataW H} {p : List MemPlace} (hval : Value.okWide Try.prog W .any b0 45 v) (hd : DataW.Trod enc Try.prog W base spare held 45 v d p) :
    ∃ a b c, v = .agg #[.int .u8 a, .int .u8 b, .int .u8 c] ∧ (0 ≤ a ∧ a < 256) ∧ (0 ≤ b ∧ b < 256) ∧ (0 ≤ c ∧ c < 256) := by
  obtain ⟨xs, rfl, hn⟩ := okWide_arr arr45 hval
  obtain ⟨fuel, hf⟩ := hd
  cases fuel with
  | zero => simp [DataW.trod] at hf
  | succ m =>
    rw [DataW.trod_step] at hf
    unfold DataW.trodStep at hf
    simp only [arr45.hu, Value.cells] at hf
    rw [if_pos (by rw [arr45.size]; simpa using hn)] at hf
    simp only [Option.map_eq_some_iff] at hf
    obtain ⟨ys, hy, _⟩ := hf
    have each := mapM_each _ _ hy
    rw [arr45.one] at each
    obtain ⟨l⟩ := xs
    match l, hn with
    | [x0, x1, x2], _ =>
      obtain ⟨y0, g0⟩ := each 0 (by decide)
      obtain ⟨y1, g1⟩ := each 1 (by decide)
      obtain ⟨y2, g2⟩ := each 2 (by decide)
      obtain ⟨n0, e0, _, w0⟩ := DataW.trod_int Try.underlying5 (show DataW.trod enc Try.prog W base spare held m 5 [x0] = some y0 from g0)
      obtain ⟨n1, e1, _, w1⟩ := DataW.trod_int Try.underlying5 (show DataW.trod enc Try.prog W base spare held m 5 [x1] = some y1 from g1)
      obtain ⟨n2, e2, _, w2⟩ := DataW.trod_int Try.underlying5 (show DataW.trod enc Try.prog W base spare held m 5 [x2] = some y2 from g2)
      simp only [List.cons.injEq, and_true] at e0 e1 e2
      subst e0 e1 e2
      exact ⟨n0, n1, n2, rfl, u8_range w0, u8_range w1, u8_range w2⟩
set_option maxRecDepth 100000 in
theorem open_u8s {H : Type} {enc : TypeId × Value → H} {w : World} {base : Nat} {held : Bool} {fuel : Nat} {A : Option Addr} {len cap : Nat} {x : DataW H × List MemPlace}
    (h : DataW.trod enc Try.prog w base (fun _ => true) held fuel 44 [.slice A len cap] = some x) : ∃ l : List Int, l.length = len ∧ len ≤ cap ∧ Kd.C (Kd.int .u8) w A len l ∧ ∀ i, 0 ≤ l.getD i 0 ∧ l.getD i 0 < 256 := by
  rcases open_ints Try.underlying44 Try.underlying5 (by kernel_rfl) h with ⟨hcs, _⟩ | ⟨a, len', cap', zs, hcs, _, hl, hm, hz, _, hcell, hwz⟩
  · simp only [List.cons.injEq, Value.slice.injEq, and_true] at hcs
    obtain ⟨rfl, rfl, rfl⟩ := hcs
    exact ⟨[], rfl, Nat.le_refl _, ⟨rfl, by decide, fun h => absurd h (by decide)⟩, fun i => by simp⟩
  · simp only [List.cons.injEq, Value.slice.injEq, and_true] at hcs
    obtain ⟨rfl, rfl, rfl⟩ := hcs
    simp only [if_true] at hz
    have hlen : (zs.take len).length = len := by simp; omega
    refine ⟨zs.take len, hlen, hl, ⟨hlen, Nat.le_trans (Nat.le_trans hl hm) (by decide), fun _ => ⟨a, rfl, fun j p hj => ?_⟩⟩, fun i => ?_⟩
    · obtain ⟨hjl, e⟩ := List.getElem?_eq_some_iff.1 hj
      rw [hlen] at hjl
      rw [List.getElem_take] at e
      subst e
      refine ⟨[.int .u8 zs[j]], rfl, rfl, fun i u hu => ?_⟩
      match i, hu with
      | 0, hu =>
        have hu0 : Value.int .u8 zs[j] = u := Option.some.inj hu
        have := hcell j (by omega)
        rw [List.getD_eq_getElem?_getD, List.getElem?_eq_getElem (by omega)] at this
        rw [← hu0]
        show w.cell? (a.add (j * 1 + 0)) = _
        rw [Nat.mul_one, Nat.add_zero]
        exact this
    · rw [List.getD_eq_getElem?_getD]
      cases hq : (zs.take len)[i]? with
      | none => simp
      | some q =>
        have hm := List.mem_of_mem_take (List.mem_of_getElem? hq)
        exact u8_range (hwz q hm)
end Go.Proofs.Ytidghmgaaenihaa.Q
