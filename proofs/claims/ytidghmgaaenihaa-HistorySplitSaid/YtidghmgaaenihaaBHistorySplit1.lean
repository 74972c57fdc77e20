/- Texts of this claim, packed: Q38, PApp, RDone, PRec, HAct, RRecDef, PRec2, HActR, PRecs, RRecW, RRec, Q33, ROps, Qe60, Qe59, Q10, PLaw10, PLaw11, PLaw15, HOpen. -/
import Derived.Test.YtidghmgaaenihaaQ0
import Derived.Test.YtidghmgaaenihaaQe39
import Derived.Test.YtidghmgaaenihaaBHistorySplit0
import Derived.Test.YtidghmgaaenihaaHOps
import Derived.Deep.Slices
import Derived.Deep.Fields
import Derived.ChangeSame
/-! part Q38 -/
namespace Go.Proofs.Ytidghmgaaenihaa.Q
open Go.RowKit Go.Proofs.YtidghmgaaenihaaW.PrintWords Go.Proofs.YtidghmgaaenihaaW.PrintLast Go.Proofs.YtidghmgaaenihaaW.PrintMore
attribute [local go_sem] max2_int min2_int max_two min_two max_three min_three max_four min_four
set_option linter.unusedVariables false
set_option linter.unusedSimpArgs false

attribute [local go_sem high] eqA39
/-! ### tegularef45_Same: function 38 -/
def tegularef45_Same.l0 : Nat → List (S39) → List (S39) → Int → Option (Bool)
  | 0, _, _, _ => none
  | k + 1, x0, x1, x5 => if x5 < (x0.length : Int) then (if 0 ≤ x5 then (if x5 < (x1.length : Int) then (if (!(((rd_T39 x0 x5).f0) == ((rd_T39 x1 x5).f0)) || (!(((rd_T39 x0 x5).f1) == ((rd_T39 x1 x5).f1)) || (!(((rd_T39 x0 x5).f2) == ((rd_T39 x1 x5).f2)) || (!(((rd_T39 x0 x5).f3) == ((rd_T39 x1 x5).f3)) || (!(((rd_T39 x0 x5).f4) == ((rd_T39 x1 x5).f4)) || (!(((rd_T39 x0 x5).f5) == ((rd_T39 x1 x5).f5)))))))) = true then (some false) else (tegularef45_Same.l0 k x0 x1 (wrap64 (x5 + 1)))) else (none)) else (none)) else (some true)
def tegularef45_Same.f (k : Nat) (l0 : List (S39)) (l1 : List (S39)) : Option (Bool) := if (l0.length : Int) = (l1.length : Int) then (tegularef45_Same.l0 k l0 l1 0) else (some false)
theorem tegularef45_Same.mono_l : ∀ k, (∀ y0 y1 y2, LeO (tegularef45_Same.l0 k y0 y1 y2) (tegularef45_Same.l0 (k + 1) y0 y1 y2))
  | 0 => fun _ _ _ r h => by simp [tegularef45_Same.l0] at h
  | k + 1 => by
    have ih0 := tegularef45_Same.mono_l k
    · intro y0 y1 y2
      unfold tegularef45_Same.l0
      repeat' first
      | (with_reducible exact ih0 _ _ _)
      | (with_reducible exact LeO.refl _)
      | (with_reducible exact LeO.none _)
      | (with_reducible refine LeO.ite ?_ ?_)
      | (with_reducible refine LeO.bind ?_ (fun _ => ?_))
      | exact ih0 _ _ _
      | exact LeO.none _
      | refine LeO.ite ?_ ?_
      | refine LeO.bind ?_ (fun _ => ?_)
theorem tegularef45_Same.mono : ∀ a0 a1 k, LeO (tegularef45_Same.f k a0 a1) (tegularef45_Same.f (k + 1) a0 a1) := by
  intro a0 a1 k
  have ih0 := tegularef45_Same.mono_l k
  unfold tegularef45_Same.f
  repeat' first
      | (with_reducible exact ih0 _ _ _)
      | (with_reducible exact LeO.refl _)
      | (with_reducible exact LeO.none _)
      | (with_reducible refine LeO.ite ?_ ?_)
      | (with_reducible refine LeO.bind ?_ (fun _ => ?_))
      | exact ih0 _ _ _
      | exact LeO.none _
      | refine LeO.ite ?_ ?_
      | refine LeO.bind ?_ (fun _ => ?_)
set_option maxHeartbeats 8000000 in
set_option maxRecDepth 100000 in
theorem tegularef45_Same.calls (k : Nat) (A0 : Option Addr) (c0 : Nat) (l0 : List (S39)) (A1 : Option Addr) (c1 : Nat) (l1 : List (S39)) (r : Bool) (w : World) (hr0 : Kd.C k39 w A0 l0.length l0) (hc0 : l0.length ≤ c0) (hr1 : Kd.C k39 w A1 l1.length l1) (hc1 : l1.length ≤ c1) (h : tegularef45_Same.f k l0 l1 = some r) :
    Calls Try.prog 38 #[.slice A0 l0.length c0, .slice A1 l1.length c1] w fun e w' => e = .returned (.bool r) ∧ Drawn0 w w' := by
  have hu39 := Try.underlying39
  have HR0 := Aside0.mk hr0
  have HC0 := Aside0.mk hc0
  clear hr0 hc0
  have HR1 := Aside0.mk hr1
  have HC1 := Aside0.mk hc1
  clear hr1 hc1
  have H : (if (l0.length : Int) = (l1.length : Int) then (tegularef45_Same.l0 k l0 l1 0) else (some false)) = some r := h
  clear h
  by_cases c3 : (l0.length : Int) = (l1.length : Int)
  · rw [if_pos c3] at H
    have c3b0 : ((l0.length : Int) == (l1.length : Int)) = true := beq_iff_eq.mpr c3
    have c3b1 : ((l0.length : Int) != (l1.length : Int)) = false := bne_eq_false_iff_eq.mpr c3
    have c3b2 : (l0.length == l1.length) = true := by first | simpa using c3 | (simp at c3 ⊢; omega)
    clear c3
    have H' := Aside0.mk H
    clear H
    go_enter Try.func38, Try.ntmps38
    go_wp2
    repeat (go_quiet (fail); try go_wp2)
    go_loopg [5] k (fun kq v5 w' => ∃ (x5_1 : Int), v5 = .int .i64 x5_1 ∧ Aside0 (tegularef45_Same.l0 kq l0 l1 x5_1 = some r) ∧ Aside0 (kq ≤ k) ∧ Drawn0 w w')
    case atStart => exact ⟨(0), (by first | rfl | (simp; done) | (simp [*]; done)), H', ⟨Nat.le_refl _⟩, by repeat (first | exact Drawn0.refl _ | apply Drawn0.step)⟩
    case round =>
      clear H'
      try clear c1
      try clear p2
      try clear c3
      try clear c3b0
      try clear c3b1
      try clear c3b2
      obtain ⟨x5_1, rfl, HA, HK1, ⟨m1, rfl⟩⟩ := hrel
      cases gk with
      | zero => exact absurd HA.out (by simp [tegularef45_Same.l0])
      | succ k1 =>
        have H := HA.out
        clear HA
        simp only [tegularef45_Same.l0] at H
        by_cases c4 : x5_1 < (l0.length : Int)
        · rw [if_pos c4] at H
          have c4b0 : decide (x5_1 < (l0.length : Int)) = true := decide_eq_true c4
          clear c4
          by_cases c5 : 0 ≤ x5_1
          · rw [if_pos c5] at H
            have c5b0 : decide (0 ≤ x5_1) = true := decide_eq_true c5
            clear c5
            by_cases c6 : x5_1 < (l1.length : Int)
            · rw [if_pos c6] at H
              have c6b0 : decide (x5_1 < (l1.length : Int)) = true := decide_eq_true c6
              clear c6
              by_cases c7 : (!(((rd_T39 l0 x5_1).f0) == ((rd_T39 l1 x5_1).f0)) || (!(((rd_T39 l0 x5_1).f1) == ((rd_T39 l1 x5_1).f1)) || (!(((rd_T39 l0 x5_1).f2) == ((rd_T39 l1 x5_1).f2)) || (!(((rd_T39 l0 x5_1).f3) == ((rd_T39 l1 x5_1).f3)) || (!(((rd_T39 l0 x5_1).f4) == ((rd_T39 l1 x5_1).f4)) || (!(((rd_T39 l0 x5_1).f5) == ((rd_T39 l1 x5_1).f5)))))))) = true
              · rw [if_pos c7] at H
                have c7b0 : (!(((rd_T39 l0 x5_1).f0) == ((rd_T39 l1 x5_1).f0)) || (!(((rd_T39 l0 x5_1).f1) == ((rd_T39 l1 x5_1).f1)) || (!(((rd_T39 l0 x5_1).f2) == ((rd_T39 l1 x5_1).f2)) || (!(((rd_T39 l0 x5_1).f3) == ((rd_T39 l1 x5_1).f3)) || (!(((rd_T39 l0 x5_1).f4) == ((rd_T39 l1 x5_1).f4)) || (!(((rd_T39 l0 x5_1).f5) == ((rd_T39 l1 x5_1).f5)))))))) = true := c7
                clear c7
                obtain rfl := Option.some.inj H
                have p556 : 0 ≤ (x5_1 : Int) := of_decide_eq_true (by first | (with_reducible assumption) | assumption)
                have q556 : x5_1 < (l0.length : Int) := of_decide_eq_true (by first | (with_reducible assumption) | assumption)
                obtain ⟨ad556, e556, hx556_0, hx556_1, hx556_2, hx556_3, hx556_4, hx556_5⟩ := at_T39 HR0.out x5_1 p556 q556
                cases e556
                replace p556 := eq_true p556
                replace q556 := eq_true q556
                have p557 : 0 ≤ (x5_1 : Int) := of_decide_eq_true (by first | (with_reducible assumption) | assumption)
                have q557 : x5_1 < (l1.length : Int) := of_decide_eq_true (by first | (with_reducible assumption) | assumption)
                obtain ⟨ad557, e557, hx557_0, hx557_1, hx557_2, hx557_3, hx557_4, hx557_5⟩ := at_T39 HR1.out x5_1 p557 q557
                cases e557
                replace p557 := eq_true p557
                replace q557 := eq_true q557
                go_wp2
                repeat (go_quiet (fail); try go_wp2)
                go_ret
                exact ⟨by first | rfl | (simp; done) | (simp [*]; done), by repeat (first | exact Drawn0.refl _ | apply Drawn0.step)⟩
              · rw [if_neg c7] at H
                have c7b0 : (!(((rd_T39 l0 x5_1).f0) == ((rd_T39 l1 x5_1).f0)) || (!(((rd_T39 l0 x5_1).f1) == ((rd_T39 l1 x5_1).f1)) || (!(((rd_T39 l0 x5_1).f2) == ((rd_T39 l1 x5_1).f2)) || (!(((rd_T39 l0 x5_1).f3) == ((rd_T39 l1 x5_1).f3)) || (!(((rd_T39 l0 x5_1).f4) == ((rd_T39 l1 x5_1).f4)) || (!(((rd_T39 l0 x5_1).f5) == ((rd_T39 l1 x5_1).f5)))))))) = false := by simpa using c7
                clear c7
                have H' := Aside0.mk H
                clear H
                have p556 : 0 ≤ (x5_1 : Int) := of_decide_eq_true (by first | (with_reducible assumption) | assumption)
                have q556 : x5_1 < (l0.length : Int) := of_decide_eq_true (by first | (with_reducible assumption) | assumption)
                obtain ⟨ad556, e556, hx556_0, hx556_1, hx556_2, hx556_3, hx556_4, hx556_5⟩ := at_T39 HR0.out x5_1 p556 q556
                cases e556
                replace p556 := eq_true p556
                replace q556 := eq_true q556
                have p557 : 0 ≤ (x5_1 : Int) := of_decide_eq_true (by first | (with_reducible assumption) | assumption)
                have q557 : x5_1 < (l1.length : Int) := of_decide_eq_true (by first | (with_reducible assumption) | assumption)
                obtain ⟨ad557, e557, hx557_0, hx557_1, hx557_2, hx557_3, hx557_4, hx557_5⟩ := at_T39 HR1.out x5_1 p557 q557
                cases e557
                replace p557 := eq_true p557
                replace q557 := eq_true q557
                go_wp2
                repeat (go_quiet (fail); try go_wp2)
                go_roundg k1
                case measure => have := HK1.out; omega
                case rel => exact ⟨(wrap64 (x5_1 + 1)), (by first | rfl | (simp; done) | (simp [*]; done)), H', ⟨by have := HK1.out; omega⟩, by repeat (first | exact Drawn0.refl _ | apply Drawn0.step)⟩
            · rw [if_neg c6] at H
              exact absurd H (by simp)
          · rw [if_neg c5] at H
            exact absurd H (by simp)
        · rw [if_neg c4] at H
          have c4b0 : decide (x5_1 < (l0.length : Int)) = false := decide_eq_false c4
          clear c4
          obtain rfl := Option.some.inj H
          go_wp2
          repeat (go_quiet (fail); try go_wp2)
          go_ret
          exact ⟨by first | rfl | (simp; done) | (simp [*]; done), by repeat (first | exact Drawn0.refl _ | apply Drawn0.step)⟩
  · rw [if_neg c3] at H
    have c3b0 : ((l0.length : Int) == (l1.length : Int)) = false := beq_eq_false_iff_ne.mpr c3
    have c3b1 : ((l0.length : Int) != (l1.length : Int)) = true := bne_iff_ne.mpr c3
    have c3b2 : (l0.length == l1.length) = false := by first | simpa using c3 | (simp at c3 ⊢; omega)
    obtain rfl := Option.some.inj H
    go_enter Try.func38, Try.ntmps38
    go_wp2
    repeat (go_quiet (fail); try go_wp2)
    go_ret
    exact ⟨by first | rfl | (simp; done) | (simp [*]; done), by repeat (first | exact Drawn0.refl _ | apply Drawn0.step)⟩

end Go.Proofs.Ytidghmgaaenihaa.Q

/-! part PApp -/
namespace Go.Proofs.Ytidghmgaaenihaa.Q
open Go.RowKit
set_option linter.unusedVariables false
set_option linter.unusedSimpArgs false

end Go.Proofs.Ytidghmgaaenihaa.Q

/-! part RDone -/
namespace Go.Proofs.Ytidghmgaaenihaa.Q
open Go.RowKit Go.Proofs.YtidghmgaaenihaaW.PrintWords Go.Proofs.YtidghmgaaenihaaW.PrintLast Go.Proofs.YtidghmgaaenihaaW.PrintMore
set_option linter.unusedVariables false
set_option linter.unusedSimpArgs false
end Go.Proofs.Ytidghmgaaenihaa.Q

/-! part PRec -/
namespace Go.Proofs.Ytidghmgaaenihaa.Q
open Go.RowKit
set_option linter.unusedVariables false
set_option linter.unusedSimpArgs false
end Go.Proofs.Ytidghmgaaenihaa.Q

/-! part HAct -/
namespace Go.Proofs.Ytidghmgaaenihaa.Q
open Go.RowKit Go.Proofs.YtidghmgaaenihaaW.PrintWords Go.Proofs.YtidghmgaaenihaaW.PrintLast Go.Proofs.YtidghmgaaenihaaW.PrintMore
set_option linter.unusedVariables false
set_option linter.unusedSimpArgs false
end Go.Proofs.Ytidghmgaaenihaa.Q

/-! part RRecDef -/
namespace Go.Proofs.Ytidghmgaaenihaa.Q
open Go.RowKit Go.Proofs.YtidghmgaaenihaaW.PrintWords Go.Proofs.YtidghmgaaenihaaW.PrintLast Go.Proofs.YtidghmgaaenihaaW.PrintMore
set_option linter.unusedVariables false
set_option linter.unusedSimpArgs false
end Go.Proofs.Ytidghmgaaenihaa.Q

/-! part PRec2 -/
namespace Go.Proofs.Ytidghmgaaenihaa.Q
open Go.RowKit
set_option linter.unusedVariables false
set_option linter.unusedSimpArgs false
end Go.Proofs.Ytidghmgaaenihaa.Q

/-! part HActR -/
namespace Go.Proofs.Ytidghmgaaenihaa.Q
open Go.RowKit Go.Proofs.YtidghmgaaenihaaW.PrintWords Go.Proofs.YtidghmgaaenihaaW.PrintLast Go.Proofs.YtidghmgaaenihaaW.PrintMore
set_option linter.unusedVariables false
set_option linter.unusedSimpArgs false
theorem Rec.below {w W : World} {base p : Nat} {ok : Nat → Prop} {es cs : List S39} {os : List Bool} (h : Rec w base p ok es cs os) (hb : Below w.heap.size w W) : Rec W base p ok es cs os := by
  obtain ⟨v1, v2, v3, h⟩ := h
  exact ⟨v1, v2, v3, h.below hb⟩
end Go.Proofs.Ytidghmgaaenihaa.Q

/-! part PRecs -/
namespace Go.Proofs.Ytidghmgaaenihaa.Q
open Go.RowKit Go.Proofs.YtidghmgaaenihaaW.PrintWords Go.Proofs.YtidghmgaaenihaaW.PrintLast Go.Proofs.YtidghmgaaenihaaW.PrintMore
set_option linter.unusedVariables false
set_option linter.unusedSimpArgs false
end Go.Proofs.Ytidghmgaaenihaa.Q

/-! part RRecW -/
namespace Go.Proofs.Ytidghmgaaenihaa.Q
open Go.RowKit Go.Proofs.YtidghmgaaenihaaW.PrintWords Go.Proofs.YtidghmgaaenihaaW.PrintLast Go.Proofs.YtidghmgaaenihaaW.PrintMore
set_option linter.unusedVariables false
set_option linter.unusedSimpArgs false
end Go.Proofs.Ytidghmgaaenihaa.Q

/-! part RRec -/
namespace Go.Proofs.Ytidghmgaaenihaa.Q
open Go.RowKit Go.Proofs.YtidghmgaaenihaaW.PrintWords Go.Proofs.YtidghmgaaenihaaW.PrintLast Go.Proofs.YtidghmgaaenihaaW.PrintMore
set_option linter.unusedVariables false
set_option linter.unusedSimpArgs false
end Go.Proofs.Ytidghmgaaenihaa.Q

/-! part Q33 -/
namespace Go.Proofs.Ytidghmgaaenihaa.Q
open Go.RowKit Go.Proofs.YtidghmgaaenihaaW.PrintWords Go.Proofs.YtidghmgaaenihaaW.PrintLast Go.Proofs.YtidghmgaaenihaaW.PrintMore
attribute [local go_sem] max2_int min2_int max_two min_two max_three min_three max_four min_four
set_option linter.unusedVariables false
set_option linter.unusedSimpArgs false

/-! ### tegularef45_Ops: function 33 -/
mutual
def tegularef45_Ops.l0 : Nat → List (S39) → List (S59) → Int → Int → Option ((List (S59)) × Int)
  | 0, _, _, _, _ => none
  | k + 1, x0, x4, x5, x6 => if x6 < (x0.length : Int) then (if 0 ≤ x6 then (if ((rd_T39 x0 x6).f0) = 3 then (tegularef45_Ops.l0 k x0 x4 (wrap64 (x5 + 1)) (wrap64 (x6 + 1))) else (if ((rd_T39 x0 x6).f0) = 1 then (if x4.length < 2513169434916 then (tegularef45_Ops.l0 k x0 (x4 ++ [(⟨(rd_T39 x0 x6).f1, (rd_T39 x0 x6).f3, (rd_T39 x0 x6).f4, (rd_T39 x0 x6).f2, (rd_T39 x0 x6).f5, x5, x6, (-1)⟩ : S59)]) x5 (wrap64 (x6 + 1))) else (none)) else (tegularef45_Ops.l1 k x0 x4 x5 x6 0 ((rd_T39 x0 x6).f0) ((rd_T39 x0 x6).f1) ((rd_T39 x0 x6).f2) ((rd_T39 x0 x6).f3) ((rd_T39 x0 x6).f4) ((rd_T39 x0 x6).f5)))) else (none)) else (some (x4, 0))
def tegularef45_Ops.l1 : Nat → List (S39) → List (S59) → Int → Int → Int → Int → Int → Bool → Int → Int → Bool → Option ((List (S59)) × Int)
  | 0, _, _, _, _, _, _, _, _, _, _, _ => none
  | k + 1, x0, x4, x5, x6, x8, x179000, x179001, x179002, x179003, x179004, x179005 => if x8 < (x4.length : Int) then (if 0 ≤ x8 then (if ((rd_T59 x4 x8).f0) = x179001 then ((some (x4.set (x8 : Int).toNat (⟨(rd_T59 x4 x8).f0, (rd_T59 x4 x8).f1, x179004, (rd_T59 x4 x8).f3, (rd_T59 x4 x8).f4, (rd_T59 x4 x8).f5, (rd_T59 x4 x8).f6, (rd_T59 x4 x8).f7⟩ : S59) : List (S59))).bind fun y183 => (tegularef45_Ops.l1 k x0 (y183.set (x8 : Int).toNat (⟨(rd_T59 y183 x8).f0, (rd_T59 y183 x8).f1, (rd_T59 y183 x8).f2, (rd_T59 y183 x8).f3, (rd_T59 y183 x8).f4, (rd_T59 y183 x8).f5, (rd_T59 y183 x8).f6, x6⟩ : S59)) x5 x6 (wrap64 (x8 + 1)) x179000 x179001 x179002 x179003 x179004 x179005)) else (tegularef45_Ops.l1 k x0 x4 x5 x6 (wrap64 (x8 + 1)) x179000 x179001 x179002 x179003 x179004 x179005)) else (none)) else (tegularef45_Ops.l0 k x0 x4 x5 (wrap64 (x6 + 1)))
end
def tegularef45_Ops.f (k : Nat) (l0 : List (S39)) : Option ((List (S59)) × Int) := (tegularef45_Valid.f l0).bind fun t176 => (if t176 = true then (tegularef45_Ops.l0 k l0 ([] : List (S59)) 0 0) else (some (([] : List (S59)), 1)))
theorem tegularef45_Ops.mono_l : ∀ k, (∀ y0 y1 y2 y3, LeO (tegularef45_Ops.l0 k y0 y1 y2 y3) (tegularef45_Ops.l0 (k + 1) y0 y1 y2 y3)) ∧ (∀ y0 y1 y2 y3 y4 y5 y6 y7 y8 y9 y10, LeO (tegularef45_Ops.l1 k y0 y1 y2 y3 y4 y5 y6 y7 y8 y9 y10) (tegularef45_Ops.l1 (k + 1) y0 y1 y2 y3 y4 y5 y6 y7 y8 y9 y10))
  | 0 => ⟨fun _ _ _ _ r h => by simp [tegularef45_Ops.l0] at h, fun _ _ _ _ _ _ _ _ _ _ _ r h => by simp [tegularef45_Ops.l1] at h⟩
  | k + 1 => by
    obtain ⟨ih0, ih1⟩ := tegularef45_Ops.mono_l k
    refine ⟨?_, ?_⟩
    · intro y0 y1 y2 y3
      unfold tegularef45_Ops.l0
      repeat' first
      | (with_reducible exact ih0 _ _ _ _)
      | (with_reducible exact ih1 _ _ _ _ _ _ _ _ _ _ _)
      | (with_reducible exact LeO.refl _)
      | (with_reducible exact LeO.none _)
      | (with_reducible refine LeO.ite ?_ ?_)
      | (with_reducible refine LeO.bind ?_ (fun _ => ?_))
      | exact ih0 _ _ _ _
      | exact ih1 _ _ _ _ _ _ _ _ _ _ _
      | exact LeO.none _
      | refine LeO.ite ?_ ?_
      | refine LeO.bind ?_ (fun _ => ?_)
    · intro y0 y1 y2 y3 y4 y5 y6 y7 y8 y9 y10
      unfold tegularef45_Ops.l1
      repeat' first
      | (with_reducible exact ih0 _ _ _ _)
      | (with_reducible exact ih1 _ _ _ _ _ _ _ _ _ _ _)
      | (with_reducible exact LeO.refl _)
      | (with_reducible exact LeO.none _)
      | (with_reducible refine LeO.ite ?_ ?_)
      | (with_reducible refine LeO.bind ?_ (fun _ => ?_))
      | exact ih0 _ _ _ _
      | exact ih1 _ _ _ _ _ _ _ _ _ _ _
      | exact LeO.none _
      | refine LeO.ite ?_ ?_
      | refine LeO.bind ?_ (fun _ => ?_)
theorem tegularef45_Ops.mono : ∀ a0 k, LeO (tegularef45_Ops.f k a0) (tegularef45_Ops.f (k + 1) a0) := by
  intro a0 k
  obtain ⟨ih0, ih1⟩ := tegularef45_Ops.mono_l k
  unfold tegularef45_Ops.f
  repeat' first
      | (with_reducible exact ih0 _ _ _ _)
      | (with_reducible exact ih1 _ _ _ _ _ _ _ _ _ _ _)
      | (with_reducible exact LeO.refl _)
      | (with_reducible exact LeO.none _)
      | (with_reducible refine LeO.ite ?_ ?_)
      | (with_reducible refine LeO.bind ?_ (fun _ => ?_))
      | exact ih0 _ _ _ _
      | exact ih1 _ _ _ _ _ _ _ _ _ _ _
      | exact LeO.none _
      | refine LeO.ite ?_ ?_
      | refine LeO.bind ?_ (fun _ => ?_)
end Go.Proofs.Ytidghmgaaenihaa.Q

/-! part ROps -/
namespace Go.Proofs.Ytidghmgaaenihaa.Q
open Go.RowKit Go.Proofs.YtidghmgaaenihaaW.PrintWords Go.Proofs.YtidghmgaaenihaaW.PrintLast Go.Proofs.YtidghmgaaenihaaW.PrintMore
set_option linter.unusedVariables false
set_option linter.unusedSimpArgs false

end Go.Proofs.Ytidghmgaaenihaa.Q

/-! part Qe60 -/
namespace Go.Proofs.Ytidghmgaaenihaa.Q
open Go.RowKit Go.Proofs.YtidghmgaaenihaaW.PrintWords Go.Proofs.YtidghmgaaenihaaW.PrintLast Go.Proofs.YtidghmgaaenihaaW.PrintMore
attribute [local go_sem] max2_int min2_int max_two min_two max_three min_three max_four min_four
set_option linter.unusedVariables false
set_option linter.unusedSimpArgs false

theorem eqA60 (d : Nat) (w : World) (x0 y0 : Int) (x1 y1 : Int) (x2 y2 : Int) (x3 y3 : Bool) (x4 y4 : Bool) (x5 y5 : Int) (x6 y6 : Int) (x7 y7 : Int) :
    (Op.equalIn (d + 2) 60 (.agg #[.int .i64 x0, .int .i64 x1, .int .i64 x2, .bool x3, .bool x4, .int .i64 x5, .int .i64 x6, .int .i64 x7]) (.agg #[.int .i64 y0, .int .i64 y1, .int .i64 y2, .bool y3, .bool y4, .int .i64 y5, .int .i64 y6, .int .i64 y7])).run Try.prog w = .ok (x0 == y0 && (x1 == y1 && (x2 == y2 && (x3 == y3 && (x4 == y4 && (x5 == y5 && (x6 == y6 && (x7 == y7)))))))) w := by
  refine eqA_of Try.underlying60 (by kernel_rfl) ?_
  refine eqf_cons (by rfl) (by go_simp; rfl) (by go_simp; rfl) (by go_simp) ?_
  refine eqf_cons (by rfl) (by go_simp; rfl) (by go_simp; rfl) (by go_simp) ?_
  refine eqf_cons (by rfl) (by go_simp; rfl) (by go_simp; rfl) (by go_simp) ?_
  refine eqf_cons (by rfl) (by go_simp; rfl) (by go_simp; rfl) (by go_simp) ?_
  refine eqf_cons (by rfl) (by go_simp; rfl) (by go_simp; rfl) (by go_simp) ?_
  refine eqf_cons (by rfl) (by go_simp; rfl) (by go_simp; rfl) (by go_simp) ?_
  refine eqf_cons (by rfl) (by go_simp; rfl) (by go_simp; rfl) (by go_simp) ?_
  exact eqf_last (by rfl) (by go_simp; rfl) (by go_simp; rfl) (by go_simp)
end Go.Proofs.Ytidghmgaaenihaa.Q

/-! part Qe59 -/
namespace Go.Proofs.Ytidghmgaaenihaa.Q
open Go.RowKit Go.Proofs.YtidghmgaaenihaaW.PrintWords Go.Proofs.YtidghmgaaenihaaW.PrintLast Go.Proofs.YtidghmgaaenihaaW.PrintMore
attribute [local go_sem] max2_int min2_int max_two min_two max_three min_three max_four min_four
set_option linter.unusedVariables false
set_option linter.unusedSimpArgs false

theorem eqA59 (d : Nat) (w : World) (x0 y0 : Int) (x1 y1 : Int) (x2 y2 : Int) (x3 y3 : Bool) (x4 y4 : Bool) (x5 y5 : Int) (x6 y6 : Int) (x7 y7 : Int) :
    (Op.equalIn (d + 2) 59 (.agg #[.int .i64 x0, .int .i64 x1, .int .i64 x2, .bool x3, .bool x4, .int .i64 x5, .int .i64 x6, .int .i64 x7]) (.agg #[.int .i64 y0, .int .i64 y1, .int .i64 y2, .bool y3, .bool y4, .int .i64 y5, .int .i64 y6, .int .i64 y7])).run Try.prog w = .ok (x0 == y0 && (x1 == y1 && (x2 == y2 && (x3 == y3 && (x4 == y4 && (x5 == y5 && (x6 == y6 && (x7 == y7)))))))) w := by
  refine eqA_of Try.underlying59 (by kernel_rfl) ?_
  refine eqf_cons (by rfl) (by go_simp; rfl) (by go_simp; rfl) (by go_simp) ?_
  refine eqf_cons (by rfl) (by go_simp; rfl) (by go_simp; rfl) (by go_simp) ?_
  refine eqf_cons (by rfl) (by go_simp; rfl) (by go_simp; rfl) (by go_simp) ?_
  refine eqf_cons (by rfl) (by go_simp; rfl) (by go_simp; rfl) (by go_simp) ?_
  refine eqf_cons (by rfl) (by go_simp; rfl) (by go_simp; rfl) (by go_simp) ?_
  refine eqf_cons (by rfl) (by go_simp; rfl) (by go_simp; rfl) (by go_simp) ?_
  refine eqf_cons (by rfl) (by go_simp; rfl) (by go_simp; rfl) (by go_simp) ?_
  exact eqf_last (by rfl) (by go_simp; rfl) (by go_simp; rfl) (by go_simp)
end Go.Proofs.Ytidghmgaaenihaa.Q

/-! part Q10 -/
namespace Go.Proofs.Ytidghmgaaenihaa.Q
open Go.RowKit Go.Proofs.YtidghmgaaenihaaW.PrintWords Go.Proofs.YtidghmgaaenihaaW.PrintLast Go.Proofs.YtidghmgaaenihaaW.PrintMore
attribute [local go_sem] max2_int min2_int max_two min_two max_three min_three max_four min_four
set_option linter.unusedVariables false
set_option linter.unusedSimpArgs false

attribute [local go_sem high] eqA60 eqA59
/-! ### tegulalaw45_HistoryOps: function 10 -/
mutual
def tegulalaw45_HistoryOps.j0 : Nat → List (S60) → List (S59) → Bool → Option (Bool)
  | 0, _, _, _ => none
  | k + 1, x3, x5, x32 => if x32 = true then (some false) else (tegulalaw45_HistoryOps.l0 k x3 x5 0)
def tegulalaw45_HistoryOps.l0 : Nat → List (S60) → List (S59) → Int → Option (Bool)
  | 0, _, _, _ => none
  | k + 1, x3, x5, x7 => if x7 < (x3.length : Int) then (if 0 ≤ x7 then (if x7 < (x5.length : Int) then (if (!(((rd_T60 x3 x7).f0) == ((rd_T59 x5 x7).f0)) || (!(((rd_T60 x3 x7).f1) == ((rd_T59 x5 x7).f1)) || (!(((rd_T60 x3 x7).f2) == ((rd_T59 x5 x7).f2)) || (!(((rd_T60 x3 x7).f3) == ((rd_T59 x5 x7).f3)) || (!(((rd_T60 x3 x7).f4) == ((rd_T59 x5 x7).f4)) || (!(((rd_T60 x3 x7).f5) == ((rd_T59 x5 x7).f5)) || (!(((rd_T60 x3 x7).f6) == ((rd_T59 x5 x7).f6)) || (!(((rd_T60 x3 x7).f7) == ((rd_T59 x5 x7).f7)))))))))) = true then (some false) else (tegulalaw45_HistoryOps.l0 k x3 x5 (wrap64 (x7 + 1)))) else (none)) else (none)) else (some true)
end
def tegulalaw45_HistoryOps.f (k : Nat) (l0 : List (S39)) : Option (Bool) := (tegulalaw45_awake.f).bind fun t470 => (if t470 = true then (if (l0.length : Int) > 60 then (some true) else ((history_Ops.f l0).bind fun bt471 => ((tegularef45_Ops.f k l0).bind fun bt475 => (if bt471.2 = bt475.2 then (tegulalaw45_HistoryOps.j0 k bt471.1 bt475.1 ((bt471.1.length : Int) != (bt475.1.length : Int))) else (tegulalaw45_HistoryOps.j0 k bt471.1 bt475.1 true))))) else (some false))
theorem tegulalaw45_HistoryOps.mono_l : ∀ k, (∀ y0 y1 y2, LeO (tegulalaw45_HistoryOps.j0 k y0 y1 y2) (tegulalaw45_HistoryOps.j0 (k + 1) y0 y1 y2)) ∧ (∀ y0 y1 y2, LeO (tegulalaw45_HistoryOps.l0 k y0 y1 y2) (tegulalaw45_HistoryOps.l0 (k + 1) y0 y1 y2))
  | 0 => ⟨fun _ _ _ r h => by simp [tegulalaw45_HistoryOps.j0] at h, fun _ _ _ r h => by simp [tegulalaw45_HistoryOps.l0] at h⟩
  | k + 1 => by
    obtain ⟨ih0, ih1⟩ := tegulalaw45_HistoryOps.mono_l k
    refine ⟨?_, ?_⟩
    · intro y0 y1 y2
      unfold tegulalaw45_HistoryOps.j0
      repeat' first
      | (with_reducible exact ih0 _ _ _)
      | (with_reducible exact ih1 _ _ _)
      | (with_reducible exact tegularef45_Ops.mono _ _)
      | (with_reducible exact LeO.refl _)
      | (with_reducible exact LeO.none _)
      | (with_reducible refine LeO.ite ?_ ?_)
      | (with_reducible refine LeO.bind ?_ (fun _ => ?_))
      | exact ih0 _ _ _
      | exact ih1 _ _ _
      | exact tegularef45_Ops.mono _ _
      | exact LeO.none _
      | refine LeO.ite ?_ ?_
      | refine LeO.bind ?_ (fun _ => ?_)
    · intro y0 y1 y2
      unfold tegulalaw45_HistoryOps.l0
      repeat' first
      | (with_reducible exact ih0 _ _ _)
      | (with_reducible exact ih1 _ _ _)
      | (with_reducible exact tegularef45_Ops.mono _ _)
      | (with_reducible exact LeO.refl _)
      | (with_reducible exact LeO.none _)
      | (with_reducible refine LeO.ite ?_ ?_)
      | (with_reducible refine LeO.bind ?_ (fun _ => ?_))
      | exact ih0 _ _ _
      | exact ih1 _ _ _
      | exact tegularef45_Ops.mono _ _
      | exact LeO.none _
      | refine LeO.ite ?_ ?_
      | refine LeO.bind ?_ (fun _ => ?_)
theorem tegulalaw45_HistoryOps.mono : ∀ a0 k, LeO (tegulalaw45_HistoryOps.f k a0) (tegulalaw45_HistoryOps.f (k + 1) a0) := by
  intro a0 k
  obtain ⟨ih0, ih1⟩ := tegulalaw45_HistoryOps.mono_l k
  unfold tegulalaw45_HistoryOps.f
  repeat' first
      | (with_reducible exact ih0 _ _ _)
      | (with_reducible exact ih1 _ _ _)
      | (with_reducible exact tegularef45_Ops.mono _ _)
      | (with_reducible exact LeO.refl _)
      | (with_reducible exact LeO.none _)
      | (with_reducible refine LeO.ite ?_ ?_)
      | (with_reducible refine LeO.bind ?_ (fun _ => ?_))
      | exact ih0 _ _ _
      | exact ih1 _ _ _
      | exact tegularef45_Ops.mono _ _
      | exact LeO.none _
      | refine LeO.ite ?_ ?_
      | refine LeO.bind ?_ (fun _ => ?_)
end Go.Proofs.Ytidghmgaaenihaa.Q

/-! part PLaw10 -/
namespace Go.Proofs.Ytidghmgaaenihaa.Q
open Go.RowKit Go.Proofs.YtidghmgaaenihaaW.PrintWords Go.Proofs.YtidghmgaaenihaaW.PrintLast Go.Proofs.YtidghmgaaenihaaW.PrintMore
set_option linter.unusedVariables false
set_option linter.unusedSimpArgs false
end Go.Proofs.Ytidghmgaaenihaa.Q

/-! part PLaw11 -/
namespace Go.Proofs.Ytidghmgaaenihaa.Q
open Go.RowKit Go.Proofs.YtidghmgaaenihaaW.PrintWords Go.Proofs.YtidghmgaaenihaaW.PrintLast Go.Proofs.YtidghmgaaenihaaW.PrintMore
set_option linter.unusedVariables false
set_option linter.unusedSimpArgs false
theorem same_l0 (a : List S39) (ha : a.length ≤ 1000000) : ∀ d x, a.length - x = d → x ≤ a.length → tegularef45_Same.l0 (d + 1) a a (x : Nat) = some true
  | 0, x, hd, hx => by
    obtain rfl : x = a.length := by omega
    rw [tegularef45_Same.l0, if_neg (by omega)]
  | d + 1, x, hd, hx => by
    rw [tegularef45_Same.l0, if_pos (by omega), if_pos (by omega), if_pos (by omega), if_neg (by simp), wrap_succ (by omega) (by omega)]
    exact same_l0 a ha d (x + 1) (by omega) (by omega)
theorem same_self (a : List S39) (ha : a.length ≤ 1000000) : tegularef45_Same.f (a.length + 1) a a = some true := by
  rw [tegularef45_Same.f, if_pos rfl]
  exact same_l0 a ha a.length 0 (by omega) (by omega)
end Go.Proofs.Ytidghmgaaenihaa.Q

/-! part PLaw15 -/
namespace Go.Proofs.Ytidghmgaaenihaa.Q
open Go.RowKit Go.Proofs.YtidghmgaaenihaaW.PrintWords Go.Proofs.YtidghmgaaenihaaW.PrintLast Go.Proofs.YtidghmgaaenihaaW.PrintMore
set_option linter.unusedVariables false
set_option linter.unusedSimpArgs false
set_option maxHeartbeats 4000000 in
set_option maxRecDepth 100000 in
theorem law15_walk (A : Option Addr) (c : Nat) (l : List S39) (r : Int) (w : World) (hr : Kd.C k39 w A l.length l) (hc : l.length ≤ c) (_hwf : (Lit.int .i64 r).wf = true) :
    Calls Try.prog 15 #[.slice A l.length c, .int .i64 r] w fun e w' => e = .returned (.bool true) ∧ Below w.heap.size w w' := by
  have HR := Aside0.mk hr
  clear hr
  have hlen : l.length ≤ 9223372036854775807 := HR.out.2.1
  by_cases hbig : l.length > 60
  · have hb2 : (l.length : Int) > 60 := by omega
    go_enter Try.func15, Try.ntmps15
    go_wp2_with (go_at_call 31; (with_reducible refine (awake45_any _).mono ?_); rintro e w1 ⟨rfl, hB⟩)
    go_ret
    exact ⟨rfl, hB⟩
  · have hb2 : ¬ (l.length : Int) > 60 := by omega
    have hsz : l.length ≤ 1000000 := by omega
    have HLL := Aside0.mk (show (splitL l r).length ≤ 1000000 from by
      unfold splitL; split
      · exact Nat.le_trans (List.length_filter_le _ _) hsz
      · simp)
    have HSR := Aside0.mk (splitR_f l r hsz)
    have HSA := Aside0.mk (fun W h => split_any A c l r W h hc hsz)
    obtain ⟨s, hs⟩ : ∃ s, splitL l r = s := ⟨_, rfl⟩
    rw [hs] at HLL HSR HSA
    clear hs
    go_enter Try.func15, Try.ntmps15
    go_wp2_with fail
    (with_reducible refine (awake45_any _).mono ?_)
    rintro e w1 ⟨rfl, hB⟩
    have HB1 := Aside0.mk hB
    clear hB
    go_wp2_with fail
    (with_reducible refine (HSA.out _ (Kd.C_below HR.out HB1.out)).mono ?_)
    rintro e w2 ⟨A2, m, c2, rfl, hm, hmc, hC2, hB⟩
    subst hm
    have HB2 := Aside0.mk (below_step HB1.out hB)
    have HC2 := Aside0.mk hC2
    clear hB hC2
    go_wp2_with fail
    (with_reducible refine (tegularef45_Split.calls _ A c l r s w2 (Kd.C_below HR.out HB2.out) hc HSR.out).mono ?_)
    rintro e w3 ⟨v, rfl, hV, hB⟩
    obtain ⟨A3, c3, rfl, hc3, hC3⟩ := Kd.R_reads hV
    have HB3 := Aside0.mk (below_step HB2.out hB)
    have HC3 := Aside0.mk hC3
    have HC2b := Aside0.mk (Kd.C_below HC2.out hB)
    clear hB hC3 hV HC2
    go_wp2_with fail
    (with_reducible refine (tegularef45_Same.calls (s.length + 1) A2 c2 s A3 c3 s true w3 HC2b.out hmc HC3.out hc3 (same_self s HLL.out)).mono ?_)
    rintro e w4 ⟨rfl, hD⟩
    have HB4 := Aside0.mk (below_step HB3.out hD.below)
    clear hD
    go_wp2
    go_ret
    exact ⟨rfl, HB4.out⟩
end Go.Proofs.Ytidghmgaaenihaa.Q

/-! part HOpen -/
namespace Go.Proofs.Ytidghmgaaenihaa.Q
open Go.RowKit Go.Proofs.YtidghmgaaenihaaW.PrintWords Go.Proofs.YtidghmgaaenihaaW.PrintLast Go.Proofs.YtidghmgaaenihaaW.PrintMore
open Go.ChangeShapes Go.WideShapes Go.Deep
set_option linter.unusedVariables false
theorem cellsOf39 : Try.prog.cellsOf 39 = 6 := by kernel_rfl
instance : Inhabited S39 := ⟨⟨0, 0, false, 0, 0, false⟩⟩
theorem one39 (fs : Array Field) (h : Try.prog.underlying 39 = some (.struct fs)) : oneCellFields Try.prog fs = true := by
  rw [Try.underlying39] at h
  cases h
  kernel_rfl
set_option maxRecDepth 100000 in
theorem event_cells {H : Type} {enc : TypeId × Value → H} {w : World} {base : Nat} {spare : Nat → Bool} {held : Bool} {fuel : Nat} {cs : List Value} {x : DataW H × List MemPlace}
    (h : DataW.trod enc Try.prog w base spare held fuel 39 cs = some x) : ∃ e : S39, cs = [.int .i64 e.f0, .int .i64 e.f1, .bool e.f2, .int .i64 e.f3, .int .i64 e.f4, .bool e.f5] := by
  obtain ⟨ys, n, _, _, hlen, hyl, hf⟩ := DataW.trod_struct Try.underlying39 h
  rw [cellsOf39] at hlen
  match cs, hlen with
  | [c0, c1, c2, c3, c4, c5], _ =>
    match ys, hyl with
    | [y0, y1, y2, y3, y4, y5], _ =>
      have hone := hone_of (one39 _ Try.underlying39)
      have g0 := hf 0 _ rfl
      obtain ⟨o0, z0⟩ := hone 0 _ rfl
      rw [o0, z0] at g0
      obtain ⟨n0, e0, -, -⟩ := DataW.trod_int Try.underlying3 (show DataW.trod enc Try.prog w base spare held n 3 [c0] = some y0 from g0)
      have g1 := hf 1 _ rfl
      obtain ⟨o1, z1⟩ := hone 1 _ rfl
      rw [o1, z1] at g1
      obtain ⟨n1, e1, -, -⟩ := DataW.trod_int Try.underlying3 (show DataW.trod enc Try.prog w base spare held n 3 [c1] = some y1 from g1)
      have g2 := hf 2 _ rfl
      obtain ⟨o2, z2⟩ := hone 2 _ rfl
      rw [o2, z2] at g2
      obtain ⟨n2, e2, -⟩ := DataW.trod_bool Try.underlying4 (show DataW.trod enc Try.prog w base spare held n 4 [c2] = some y2 from g2)
      have g3 := hf 3 _ rfl
      obtain ⟨o3, z3⟩ := hone 3 _ rfl
      rw [o3, z3] at g3
      obtain ⟨n3, e3, -, -⟩ := DataW.trod_int Try.underlying3 (show DataW.trod enc Try.prog w base spare held n 3 [c3] = some y3 from g3)
      have g4 := hf 4 _ rfl
      obtain ⟨o4, z4⟩ := hone 4 _ rfl
      rw [o4, z4] at g4
      obtain ⟨n4, e4, -, -⟩ := DataW.trod_int Try.underlying3 (show DataW.trod enc Try.prog w base spare held n 3 [c4] = some y4 from g4)
      have g5 := hf 5 _ rfl
      obtain ⟨o5, z5⟩ := hone 5 _ rfl
      rw [o5, z5] at g5
      obtain ⟨n5, e5, -⟩ := DataW.trod_bool Try.underlying4 (show DataW.trod enc Try.prog w base spare held n 4 [c5] = some y5 from g5)
      refine ⟨⟨n0, n1, n2, n3, n4, n5⟩, ?_⟩
      simp only [List.cons.injEq, and_true] at e0 e1 e2 e3 e4 e5
      rw [e0, e1, e2, e3, e4, e5]
theorem open_events {H : Type} {enc : TypeId × Value → H} {w : World} {base : Nat} {spare : Nat → Bool} {held : Bool} {fuel : Nat} {A : Option Addr} {len cap : Nat} {x : DataW H × List MemPlace}
    (h : DataW.trod enc Try.prog w base spare held fuel 22 [.slice A len cap] = some x) : ∃ l : List S39, l.length = len ∧ len ≤ cap ∧ Kd.C k39 w A len l := by
  rcases open_slice Try.underlying22 h with ⟨hcs, _⟩ | ⟨a, len', cap', m, n, D, Pl, hcs, hb, hl, hm, hmm, hx, hi⟩
  · simp only [List.cons.injEq, Value.slice.injEq, and_true] at hcs
    obtain ⟨rfl, rfl, rfl⟩ := hcs
    exact ⟨[], rfl, Nat.le_refl _, rfl, by decide, fun h => absurd h (by decide)⟩
  · simp only [List.cons.injEq, Value.slice.injEq, and_true] at hcs
    obtain ⟨rfl, rfl, rfl⟩ := hcs
    rw [cellsOf39] at hi
    have each : ∀ i, i < len → ∃ e : S39, ∀ j u, [Value.int .i64 e.f0, .int .i64 e.f1, .bool e.f2, .int .i64 e.f3, .int .i64 e.f4, .bool e.f5][j]? = some u → w.cell? (a.add (i * 6 + j)) = some u := by
      intro i hil
      have him : i < m := by rw [hmm]; split <;> omega
      obtain ⟨cs', hc, ht⟩ := hi i him
      obtain ⟨e, rfl⟩ := event_cells ht
      obtain ⟨_, _, hat⟩ := World.cells?_some hc
      refine ⟨e, fun j u hj => ?_⟩
      have hj6 : j < 6 := (List.getElem?_eq_some_iff.1 hj).1
      rw [← Go.Deep.add_add, hat j hj6, hj]
    obtain ⟨q, hq⟩ := choose_lt each
    refine ⟨(List.range len).map q, by simp, hl, by simp, Nat.le_trans (Nat.le_trans hl hm) (by decide), fun _ => ⟨a, rfl, fun j p hj => ?_⟩⟩
    rw [List.getElem?_map] at hj
    obtain ⟨j', hj', rfl⟩ := Option.map_eq_some_iff.1 hj
    obtain ⟨hjl, e⟩ := List.getElem?_eq_some_iff.1 hj'
    rw [List.getElem_range] at e
    subst e
    rw [List.length_range] at hjl
    exact ⟨_, rfl, k39_mk w (q j), fun i u hu => hq j hjl i u hu⟩
end Go.Proofs.Ytidghmgaaenihaa.Q
