/- Texts of this claim, packed: Q97, Q79, Q67, RFind, REvent, RValid, PValid, Q33, ROps, HRange, HPend, HPend2, Shelf, HSort, HValid, HRec, HRecCall. -/
import Derived.Test.YtidghmgaaenihaaQ0
import Derived.Test.YtidghmgaaenihaaHIndex
import Derived.Test.YtidghmgaaenihaaHPlain
import Derived.Test.YtidghmgaaenihaaHMap
import Derived.Test.YtidghmgaaenihaaHParse
import Derived.Test.YtidghmgaaenihaaHSurv
import Derived.Maps.RangeRun
import Derived.Test.YtidghmgaaenihaaHMap2
import Derived.Maps.RangeWalk
import Derived.Test.YtidghmgaaenihaaHOps
import Derived.Shelf.Sort.Plain
import Derived.Shelf.Slices.In.SortNone
import Derived.Test.YtidghmgaaenihaaProg
import Derived.Sort.OwnSortedInts
import Derived.Deep.RegionLaw
/-! part Q97 -/
namespace Go.Proofs.Ytidghmgaaenihaa.Q
open Go.RowKit Go.Proofs.YtidghmgaaenihaaW.PrintWords Go.Proofs.YtidghmgaaenihaaW.PrintLast Go.Proofs.YtidghmgaaenihaaW.PrintMore
attribute [local go_sem] max2_int min2_int max_two min_two max_three min_three max_four min_four
set_option linter.unusedVariables false
set_option linter.unusedSimpArgs false

/-! ### tegularef45_find: function 97 -/
def tegularef45_find.l0 : Nat → List (S39) → Int → Int → Int → Int → Option (Int)
  | 0, _, _, _, _, _ => none
  | k + 1, x0, x1, x2, x3, x9 => if x9 < x3 then (if 0 ≤ x9 then (if x9 < (x0.length : Int) then (if ((rd_T39 x0 x9).f0) = x1 then (if ((rd_T39 x0 x9).f1) = x2 then (some x9) else (tegularef45_find.l0 k x0 x1 x2 x3 (wrap64 (x9 + 1)))) else (tegularef45_find.l0 k x0 x1 x2 x3 (wrap64 (x9 + 1)))) else (none)) else (none)) else (some (-1))
def tegularef45_find.f (k : Nat) (l0 : List (S39)) (a1 : Int) (a2 : Int) (a3 : Int) : Option (Int) := tegularef45_find.l0 k l0 a1 a2 a3 0
theorem tegularef45_find.mono_l : ∀ k, (∀ y0 y1 y2 y3 y4, LeO (tegularef45_find.l0 k y0 y1 y2 y3 y4) (tegularef45_find.l0 (k + 1) y0 y1 y2 y3 y4))
  | 0 => fun _ _ _ _ _ r h => by simp [tegularef45_find.l0] at h
  | k + 1 => by
    have ih0 := tegularef45_find.mono_l k
    · intro y0 y1 y2 y3 y4
      unfold tegularef45_find.l0
      repeat' first
      | (with_reducible exact ih0 _ _ _ _ _)
      | (with_reducible exact LeO.refl _)
      | (with_reducible exact LeO.none _)
      | (with_reducible refine LeO.ite ?_ ?_)
      | (with_reducible refine LeO.bind ?_ (fun _ => ?_))
      | exact ih0 _ _ _ _ _
      | exact LeO.none _
      | refine LeO.ite ?_ ?_
      | refine LeO.bind ?_ (fun _ => ?_)
theorem tegularef45_find.mono : ∀ a0 a1 a2 a3 k, LeO (tegularef45_find.f k a0 a1 a2 a3) (tegularef45_find.f (k + 1) a0 a1 a2 a3) := by
  intro a0 a1 a2 a3 k
  have ih0 := tegularef45_find.mono_l k
  unfold tegularef45_find.f
  repeat' first
      | (with_reducible exact ih0 _ _ _ _ _)
      | (with_reducible exact LeO.refl _)
      | (with_reducible exact LeO.none _)
      | (with_reducible refine LeO.ite ?_ ?_)
      | (with_reducible refine LeO.bind ?_ (fun _ => ?_))
      | exact ih0 _ _ _ _ _
      | exact LeO.none _
      | refine LeO.ite ?_ ?_
      | refine LeO.bind ?_ (fun _ => ?_)
set_option maxHeartbeats 8000000 in
set_option maxRecDepth 100000 in
theorem tegularef45_find.calls (k : Nat) (A0 : Option Addr) (c0 : Nat) (l0 : List (S39)) (a1 : Int) (a2 : Int) (a3 : Int) (r : Int) (w : World) (hr0 : Kd.C k39 w A0 l0.length l0) (hc0 : l0.length ≤ c0) (h : tegularef45_find.f k l0 a1 a2 a3 = some r) :
    Calls Try.prog 97 #[.slice A0 l0.length c0, .int .i64 a1, .int .i64 a2, .int .i64 a3] w fun e w' => e = .returned (.int .i64 r) ∧ Drawn0 w w' := by
  have HR0 := Aside0.mk hr0
  have HC0 := Aside0.mk hc0
  clear hr0 hc0
  have H : (tegularef45_find.l0 k l0 a1 a2 a3 0) = some r := h
  clear h
  have H' := Aside0.mk H
  clear H
  go_enter Try.func97, Try.ntmps97
  go_wp2
  go_loopg [9] k (fun kq v9 w' => ∃ (x9_1 : Int), v9 = .int .i64 x9_1 ∧ Aside0 (tegularef45_find.l0 kq l0 a1 a2 a3 x9_1 = some r) ∧ Aside0 (kq ≤ k) ∧ Drawn0 w w')
  case atStart => exact ⟨(0), (by first | rfl | (simp; done) | (simp [*]; done)), H', ⟨Nat.le_refl _⟩, by repeat (first | exact Drawn0.refl _ | apply Drawn0.step)⟩
  case round =>
    clear H'
    try clear p2
    obtain ⟨x9_1, rfl, HA, HK1, ⟨m1, rfl⟩⟩ := hrel
    cases gk with
    | zero => exact absurd HA.out (by simp [tegularef45_find.l0])
    | succ k1 =>
      have H := HA.out
      clear HA
      simp only [tegularef45_find.l0] at H
      by_cases c5 : x9_1 < a3
      · rw [if_pos c5] at H
        have c5b0 : decide (x9_1 < a3) = true := decide_eq_true c5
        clear c5
        by_cases c6 : 0 ≤ x9_1
        · rw [if_pos c6] at H
          have c6b0 : decide (0 ≤ x9_1) = true := decide_eq_true c6
          clear c6
          by_cases c7 : x9_1 < (l0.length : Int)
          · rw [if_pos c7] at H
            have c7b0 : decide (x9_1 < (l0.length : Int)) = true := decide_eq_true c7
            clear c7
            by_cases c8 : ((rd_T39 l0 x9_1).f0) = a1
            · rw [if_pos c8] at H
              have c8b0 : (((rd_T39 l0 x9_1).f0) == a1) = true := beq_iff_eq.mpr c8
              have c8b1 : (((rd_T39 l0 x9_1).f0) != a1) = false := bne_eq_false_iff_eq.mpr c8
              clear c8
              by_cases c9 : ((rd_T39 l0 x9_1).f1) = a2
              · rw [if_pos c9] at H
                have c9b0 : (((rd_T39 l0 x9_1).f1) == a2) = true := beq_iff_eq.mpr c9
                have c9b1 : (((rd_T39 l0 x9_1).f1) != a2) = false := bne_eq_false_iff_eq.mpr c9
                clear c9
                obtain rfl := Option.some.inj H
                have p165 : 0 ≤ (x9_1 : Int) := of_decide_eq_true (by first | (with_reducible assumption) | assumption)
                have q165 : x9_1 < (l0.length : Int) := of_decide_eq_true (by first | (with_reducible assumption) | assumption)
                obtain ⟨ad165, e165, hx165_0, hx165_1, hx165_2, hx165_3, hx165_4, hx165_5⟩ := at_T39 HR0.out x9_1 p165 q165
                cases e165
                replace p165 := eq_true p165
                replace q165 := eq_true q165
                have p166 : 0 ≤ (x9_1 : Int) := of_decide_eq_true (by first | (with_reducible assumption) | assumption)
                have q166 : x9_1 < (l0.length : Int) := of_decide_eq_true (by first | (with_reducible assumption) | assumption)
                obtain ⟨ad166, e166, hx166_0, hx166_1, hx166_2, hx166_3, hx166_4, hx166_5⟩ := at_T39 HR0.out x9_1 p166 q166
                obtain rfl : ad165 = ad166 := (by injection e166)
                replace p166 := eq_true p166
                replace q166 := eq_true q166
                go_wp2
                go_ret
                exact ⟨by first | rfl | (simp; done) | (simp [*]; done), by repeat (first | exact Drawn0.refl _ | apply Drawn0.step)⟩
              · rw [if_neg c9] at H
                have c9b0 : (((rd_T39 l0 x9_1).f1) == a2) = false := beq_eq_false_iff_ne.mpr c9
                have c9b1 : (((rd_T39 l0 x9_1).f1) != a2) = true := bne_iff_ne.mpr c9
                have H' := Aside0.mk H
                clear H
                have p165 : 0 ≤ (x9_1 : Int) := of_decide_eq_true (by first | (with_reducible assumption) | assumption)
                have q165 : x9_1 < (l0.length : Int) := of_decide_eq_true (by first | (with_reducible assumption) | assumption)
                obtain ⟨ad165, e165, hx165_0, hx165_1, hx165_2, hx165_3, hx165_4, hx165_5⟩ := at_T39 HR0.out x9_1 p165 q165
                cases e165
                replace p165 := eq_true p165
                replace q165 := eq_true q165
                have p166 : 0 ≤ (x9_1 : Int) := of_decide_eq_true (by first | (with_reducible assumption) | assumption)
                have q166 : x9_1 < (l0.length : Int) := of_decide_eq_true (by first | (with_reducible assumption) | assumption)
                obtain ⟨ad166, e166, hx166_0, hx166_1, hx166_2, hx166_3, hx166_4, hx166_5⟩ := at_T39 HR0.out x9_1 p166 q166
                obtain rfl : ad165 = ad166 := (by injection e166)
                replace p166 := eq_true p166
                replace q166 := eq_true q166
                go_wp2
                go_roundg k1
                case measure => have := HK1.out; omega
                case rel => exact ⟨(wrap64 (x9_1 + 1)), (by first | rfl | (simp; done) | (simp [*]; done)), H', ⟨by have := HK1.out; omega⟩, by repeat (first | exact Drawn0.refl _ | apply Drawn0.step)⟩
            · rw [if_neg c8] at H
              have c8b0 : (((rd_T39 l0 x9_1).f0) == a1) = false := beq_eq_false_iff_ne.mpr c8
              have c8b1 : (((rd_T39 l0 x9_1).f0) != a1) = true := bne_iff_ne.mpr c8
              have H' := Aside0.mk H
              clear H
              have p165 : 0 ≤ (x9_1 : Int) := of_decide_eq_true (by first | (with_reducible assumption) | assumption)
              have q165 : x9_1 < (l0.length : Int) := of_decide_eq_true (by first | (with_reducible assumption) | assumption)
              obtain ⟨ad165, e165, hx165_0, hx165_1, hx165_2, hx165_3, hx165_4, hx165_5⟩ := at_T39 HR0.out x9_1 p165 q165
              cases e165
              replace p165 := eq_true p165
              replace q165 := eq_true q165
              go_wp2
              go_roundg k1
              case measure => have := HK1.out; omega
              case rel => exact ⟨(wrap64 (x9_1 + 1)), (by first | rfl | (simp; done) | (simp [*]; done)), H', ⟨by have := HK1.out; omega⟩, by repeat (first | exact Drawn0.refl _ | apply Drawn0.step)⟩
          · rw [if_neg c7] at H
            exact absurd H (by simp)
        · rw [if_neg c6] at H
          exact absurd H (by simp)
      · rw [if_neg c5] at H
        have c5b0 : decide (x9_1 < a3) = false := decide_eq_false c5
        clear c5
        obtain rfl := Option.some.inj H
        go_wp2
        go_ret
        exact ⟨by first | rfl | (simp; done) | (simp [*]; done), by repeat (first | exact Drawn0.refl _ | apply Drawn0.step)⟩

end Go.Proofs.Ytidghmgaaenihaa.Q

/-! part Q79 -/
namespace Go.Proofs.Ytidghmgaaenihaa.Q
open Go.RowKit Go.Proofs.YtidghmgaaenihaaW.PrintWords Go.Proofs.YtidghmgaaenihaaW.PrintLast Go.Proofs.YtidghmgaaenihaaW.PrintMore
attribute [local go_sem] max2_int min2_int max_two min_two max_three min_three max_four min_four
set_option linter.unusedVariables false
set_option linter.unusedSimpArgs false

/-! ### tegularef45_cut: function 79 -/
def tegularef45_cut.l0 : Nat → List (S39) → Int → Int → Option (Bool)
  | 0, _, _, _ => none
  | k + 1, x0, x2, x7 => if x7 < x2 then (if 0 ≤ x7 then (if x7 < (x0.length : Int) then (if ((rd_T39 x0 x7).f0) = 3 then (some true) else (tegularef45_cut.l0 k x0 x2 (wrap64 (x7 + 1)))) else (none)) else (none)) else (some false)
def tegularef45_cut.f (k : Nat) (l0 : List (S39)) (a1 : Int) (a2 : Int) : Option (Bool) := tegularef45_cut.l0 k l0 a2 a1
theorem tegularef45_cut.mono_l : ∀ k, (∀ y0 y1 y2, LeO (tegularef45_cut.l0 k y0 y1 y2) (tegularef45_cut.l0 (k + 1) y0 y1 y2))
  | 0 => fun _ _ _ r h => by simp [tegularef45_cut.l0] at h
  | k + 1 => by
    have ih0 := tegularef45_cut.mono_l k
    · intro y0 y1 y2
      unfold tegularef45_cut.l0
      repeat' first
      | (with_reducible exact ih0 _ _ _)
      | (with_reducible exact LeO.refl _)
      | (with_reducible exact LeO.none _)
      | (with_reducible refine LeO.ite ?_ ?_)
      | (with_reducible refine LeO.bind ?_ (fun _ => ?_))
      | exact ih0 _ _ _
      | exact LeO.none _
      | refine LeO.ite ?_ ?_
      | refine LeO.bind ?_ (fun _ => ?_)
theorem tegularef45_cut.mono : ∀ a0 a1 a2 k, LeO (tegularef45_cut.f k a0 a1 a2) (tegularef45_cut.f (k + 1) a0 a1 a2) := by
  intro a0 a1 a2 k
  have ih0 := tegularef45_cut.mono_l k
  unfold tegularef45_cut.f
  repeat' first
      | (with_reducible exact ih0 _ _ _)
      | (with_reducible exact LeO.refl _)
      | (with_reducible exact LeO.none _)
      | (with_reducible refine LeO.ite ?_ ?_)
      | (with_reducible refine LeO.bind ?_ (fun _ => ?_))
      | exact ih0 _ _ _
      | exact LeO.none _
      | refine LeO.ite ?_ ?_
      | refine LeO.bind ?_ (fun _ => ?_)
set_option maxHeartbeats 8000000 in
set_option maxRecDepth 100000 in
theorem tegularef45_cut.calls (k : Nat) (A0 : Option Addr) (c0 : Nat) (l0 : List (S39)) (a1 : Int) (a2 : Int) (r : Bool) (w : World) (hr0 : Kd.C k39 w A0 l0.length l0) (hc0 : l0.length ≤ c0) (h : tegularef45_cut.f k l0 a1 a2 = some r) :
    Calls Try.prog 79 #[.slice A0 l0.length c0, .int .i64 a1, .int .i64 a2] w fun e w' => e = .returned (.bool r) ∧ Drawn0 w w' := by
  have HR0 := Aside0.mk hr0
  have HC0 := Aside0.mk hc0
  clear hr0 hc0
  have H : (tegularef45_cut.l0 k l0 a2 a1) = some r := h
  clear h
  have H' := Aside0.mk H
  clear H
  go_enter Try.func79, Try.ntmps79
  go_wp2
  go_loopg [7] k (fun kq v7 w' => ∃ (x7_1 : Int), v7 = .int .i64 x7_1 ∧ Aside0 (tegularef45_cut.l0 kq l0 a2 x7_1 = some r) ∧ Aside0 (kq ≤ k) ∧ Drawn0 w w')
  case atStart => exact ⟨(a1), (by first | rfl | (simp; done) | (simp [*]; done)), H', ⟨Nat.le_refl _⟩, by repeat (first | exact Drawn0.refl _ | apply Drawn0.step)⟩
  case round =>
    clear H'
    try clear p2
    obtain ⟨x7_1, rfl, HA, HK1, ⟨m1, rfl⟩⟩ := hrel
    cases gk with
    | zero => exact absurd HA.out (by simp [tegularef45_cut.l0])
    | succ k1 =>
      have H := HA.out
      clear HA
      simp only [tegularef45_cut.l0] at H
      by_cases c4 : x7_1 < a2
      · rw [if_pos c4] at H
        have c4b0 : decide (x7_1 < a2) = true := decide_eq_true c4
        clear c4
        by_cases c5 : 0 ≤ x7_1
        · rw [if_pos c5] at H
          have c5b0 : decide (0 ≤ x7_1) = true := decide_eq_true c5
          clear c5
          by_cases c6 : x7_1 < (l0.length : Int)
          · rw [if_pos c6] at H
            have c6b0 : decide (x7_1 < (l0.length : Int)) = true := decide_eq_true c6
            clear c6
            by_cases c7 : ((rd_T39 l0 x7_1).f0) = 3
            · rw [if_pos c7] at H
              have c7b0 : (((rd_T39 l0 x7_1).f0) == 3) = true := beq_iff_eq.mpr c7
              have c7b1 : (((rd_T39 l0 x7_1).f0) != 3) = false := bne_eq_false_iff_eq.mpr c7
              clear c7
              obtain rfl := Option.some.inj H
              have p164 : 0 ≤ (x7_1 : Int) := of_decide_eq_true (by first | (with_reducible assumption) | assumption)
              have q164 : x7_1 < (l0.length : Int) := of_decide_eq_true (by first | (with_reducible assumption) | assumption)
              obtain ⟨ad164, e164, hx164_0, hx164_1, hx164_2, hx164_3, hx164_4, hx164_5⟩ := at_T39 HR0.out x7_1 p164 q164
              cases e164
              replace p164 := eq_true p164
              replace q164 := eq_true q164
              go_wp2
              go_ret
              exact ⟨by first | rfl | (simp; done) | (simp [*]; done), by repeat (first | exact Drawn0.refl _ | apply Drawn0.step)⟩
            · rw [if_neg c7] at H
              have c7b0 : (((rd_T39 l0 x7_1).f0) == 3) = false := beq_eq_false_iff_ne.mpr c7
              have c7b1 : (((rd_T39 l0 x7_1).f0) != 3) = true := bne_iff_ne.mpr c7
              have H' := Aside0.mk H
              clear H
              have p164 : 0 ≤ (x7_1 : Int) := of_decide_eq_true (by first | (with_reducible assumption) | assumption)
              have q164 : x7_1 < (l0.length : Int) := of_decide_eq_true (by first | (with_reducible assumption) | assumption)
              obtain ⟨ad164, e164, hx164_0, hx164_1, hx164_2, hx164_3, hx164_4, hx164_5⟩ := at_T39 HR0.out x7_1 p164 q164
              cases e164
              replace p164 := eq_true p164
              replace q164 := eq_true q164
              go_wp2
              go_roundg k1
              case measure => have := HK1.out; omega
              case rel => exact ⟨(wrap64 (x7_1 + 1)), (by first | rfl | (simp; done) | (simp [*]; done)), H', ⟨by have := HK1.out; omega⟩, by repeat (first | exact Drawn0.refl _ | apply Drawn0.step)⟩
          · rw [if_neg c6] at H
            exact absurd H (by simp)
        · rw [if_neg c5] at H
          exact absurd H (by simp)
      · rw [if_neg c4] at H
        have c4b0 : decide (x7_1 < a2) = false := decide_eq_false c4
        clear c4
        obtain rfl := Option.some.inj H
        go_wp2
        go_ret
        exact ⟨by first | rfl | (simp; done) | (simp [*]; done), by repeat (first | exact Drawn0.refl _ | apply Drawn0.step)⟩

end Go.Proofs.Ytidghmgaaenihaa.Q

/-! part Q67 -/
namespace Go.Proofs.Ytidghmgaaenihaa.Q
open Go.RowKit Go.Proofs.YtidghmgaaenihaaW.PrintWords Go.Proofs.YtidghmgaaenihaaW.PrintLast Go.Proofs.YtidghmgaaenihaaW.PrintMore
attribute [local go_sem] max2_int min2_int max_two min_two max_three min_three max_four min_four
set_option linter.unusedVariables false
set_option linter.unusedSimpArgs false

/-! ### tegularef45_call: function 67 -/
def tegularef45_call.j0 : Nat → Bool → Int → Int → Bool → Int → Int → Bool → Option (Bool)
  | 0, _, _, _, _, _, _, _ => none
  | k + 1, x15, x164000, x164001, x164002, x164003, x164004, x164005 => if x15 = true then (some false) else (if x164002 = true then (some true) else (if x164004 = 0 then (if x164005 = true then (some (x164003 == 0)) else (some true)) else (some false)))
def tegularef45_call.f (k : Nat) (a0_0 : Int) (a0_1 : Int) (a0_2 : Bool) (a0_3 : Int) (a0_4 : Int) (a0_5 : Bool) : Option (Bool) := if a0_1 < 0 then (tegularef45_call.j0 k true a0_0 a0_1 a0_2 a0_3 a0_4 a0_5) else (if a0_3 < 0 then (tegularef45_call.j0 k true a0_0 a0_1 a0_2 a0_3 a0_4 a0_5) else (tegularef45_call.j0 k (decide (a0_4 < 0)) a0_0 a0_1 a0_2 a0_3 a0_4 a0_5))
theorem tegularef45_call.mono_l : ∀ k, (∀ y0 y1 y2 y3 y4 y5 y6, LeO (tegularef45_call.j0 k y0 y1 y2 y3 y4 y5 y6) (tegularef45_call.j0 (k + 1) y0 y1 y2 y3 y4 y5 y6))
  | 0 => fun _ _ _ _ _ _ _ r h => by simp [tegularef45_call.j0] at h
  | k + 1 => by
    have ih0 := tegularef45_call.mono_l k
    · intro y0 y1 y2 y3 y4 y5 y6
      unfold tegularef45_call.j0
      repeat' first
      | (with_reducible exact ih0 _ _ _ _ _ _ _)
      | (with_reducible exact LeO.refl _)
      | (with_reducible exact LeO.none _)
      | (with_reducible refine LeO.ite ?_ ?_)
      | (with_reducible refine LeO.bind ?_ (fun _ => ?_))
      | exact ih0 _ _ _ _ _ _ _
      | exact LeO.none _
      | refine LeO.ite ?_ ?_
      | refine LeO.bind ?_ (fun _ => ?_)
theorem tegularef45_call.mono : ∀ a0 a1 a2 a3 a4 a5 k, LeO (tegularef45_call.f k a0 a1 a2 a3 a4 a5) (tegularef45_call.f (k + 1) a0 a1 a2 a3 a4 a5) := by
  intro a0 a1 a2 a3 a4 a5 k
  have ih0 := tegularef45_call.mono_l k
  unfold tegularef45_call.f
  repeat' first
      | (with_reducible exact ih0 _ _ _ _ _ _ _)
      | (with_reducible exact LeO.refl _)
      | (with_reducible exact LeO.none _)
      | (with_reducible refine LeO.ite ?_ ?_)
      | (with_reducible refine LeO.bind ?_ (fun _ => ?_))
      | exact ih0 _ _ _ _ _ _ _
      | exact LeO.none _
      | refine LeO.ite ?_ ?_
      | refine LeO.bind ?_ (fun _ => ?_)
set_option maxHeartbeats 8000000 in
set_option maxRecDepth 100000 in
theorem tegularef45_call.calls (k : Nat) (a0_0 : Int) (a0_1 : Int) (a0_2 : Bool) (a0_3 : Int) (a0_4 : Int) (a0_5 : Bool) (r : Bool) (w : World) (h : tegularef45_call.f k a0_0 a0_1 a0_2 a0_3 a0_4 a0_5 = some r) :
    Calls Try.prog 67 #[.agg #[.int .i64 a0_0, .int .i64 a0_1, .bool a0_2, .int .i64 a0_3, .int .i64 a0_4, .bool a0_5]] w fun e w' => e = .returned (.bool r) ∧ Below w.heap.size w w' := by
  have hu39 := Try.underlying39
  have HB := Aside0.mk (Below.refl w.heap.size w)
  have H : (if a0_1 < 0 then (tegularef45_call.j0 k true a0_0 a0_1 a0_2 a0_3 a0_4 a0_5) else (if a0_3 < 0 then (tegularef45_call.j0 k true a0_0 a0_1 a0_2 a0_3 a0_4 a0_5) else (tegularef45_call.j0 k (decide (a0_4 < 0)) a0_0 a0_1 a0_2 a0_3 a0_4 a0_5))) = some r := h
  clear h
  have HC2 := Aside0.mk H
  clear H
  go_enter Try.func67, Try.ntmps67
  go_upto_region 1 with (first | ((with_reducible refine gate_dst (N := 1) rfl ?_); refine box_event ?hg (N := 1) ?hd (cs := #[.int .i64 a0_0, .int .i64 a0_1, .bool a0_2, .int .i64 a0_3, .int .i64 a0_4, .bool a0_5]) (t := 39) ?hr ?_; (case hd => rfl); (case hg => rfl); (case hr => first | (go_simp; done) | (go_simp; rfl)); intro gb163 hg w3 hbox hb; have n0_ := Aside0.mk (below_step (by repeat (first | (with_reducible first | exact HB.out | apply below_alloc | apply pw_below_drewN | apply below_drew1) | exact HB.out)) hb); have n1_ := Aside0.mk (hbox); have n2_ := Aside0.mk ((by rw [hg]; exact (below_size (by repeat (first | (with_reducible first | exact HB.out | apply below_alloc | apply pw_below_drewN | apply below_drew1) | exact HB.out))) : w.heap.size ≤ gb163)); have n3_ := Aside0.mk ((by rw [hg]; exact (below_size (by repeat (first | (with_reducible first | exact HB.out | apply below_alloc | apply pw_below_drewN | apply below_drew1) | exact HB.out))) : w.heap.size ≤ gb163)); clear HB; have HB := n0_; have BK163 := n1_; have GW163 := n2_; have GE163 := n3_; clear n0_ n1_ n2_ n3_; clear hb hbox hg))
  (try simp only [Act.put, List.setIfInBounds_toArray, List.set_cons_zero, List.set_cons_succ])
  go_cut [15] (fun v15 wc => ∃ (kq : Nat) (x15_1 : Bool), v15 = .bool x15_1 ∧ Aside0 (tegularef45_call.j0 kq x15_1 a0_0 a0_1 a0_2 a0_3 a0_4 a0_5 = some r) ∧ Aside0 (kq ≤ k) ∧ Aside0 (wc.heap[gb163]? = some (.cells #[.int .i64 a0_0, .int .i64 a0_1, .bool a0_2, .int .i64 a0_3, .int .i64 a0_4, .bool a0_5] 39 (0, 0))) ∧ Aside0 (Below w.heap.size w wc))
  case first =>
    have H := HC2.out
    clear HC2
    by_cases c4 : a0_1 < 0
    · rw [if_pos c4] at H
      have c4b0 : decide (a0_1 < 0) = true := decide_eq_true c4
      clear c4
      (first | rw [c4b0] | (simp only [i64_w, i32_w]; rw [c4b0]) | skip)
      have H' := Aside0.mk H
      clear H
      have hcz5_0 : w3.cell? ⟨gb163, 0, none⟩ = some (.int .i64 a0_0) := (blk_cell BK163.out 0).trans rfl
      have hcz5_1 : w3.cell? ⟨gb163, 1, none⟩ = some (.int .i64 a0_1) := (blk_cell BK163.out 1).trans rfl
      have hcz5_2 : w3.cell? ⟨gb163, 2, none⟩ = some (.bool a0_2) := (blk_cell BK163.out 2).trans rfl
      have hcz5_3 : w3.cell? ⟨gb163, 3, none⟩ = some (.int .i64 a0_3) := (blk_cell BK163.out 3).trans rfl
      have hcz5_4 : w3.cell? ⟨gb163, 4, none⟩ = some (.int .i64 a0_4) := (blk_cell BK163.out 4).trans rfl
      have hcz5_5 : w3.cell? ⟨gb163, 5, none⟩ = some (.bool a0_5) := (blk_cell BK163.out 5).trans rfl
      have hfz5_0 := blk_frozen BK163.out 0
      have hfz5_1 := blk_frozen BK163.out 1
      have hfz5_2 := blk_frozen BK163.out 2
      have hfz5_3 := blk_frozen BK163.out 3
      have hfz5_4 := blk_frozen BK163.out 4
      have hfz5_5 := blk_frozen BK163.out 5
      go_wp2
      go_meet
      case rel => exact ⟨_, (true), (by first | rfl | (simp; done) | (simp [*]; done)), H', ⟨by first | omega | exact Nat.le_refl _⟩, ⟨by (with_reducible repeat (first | refine blk_drewN ?_ _ | refine blk_drew ?_ | refine blk_alloc ?_ _)); exact BK163.out⟩, ⟨by repeat (first | (with_reducible first | exact HB.out | apply below_alloc | apply pw_below_drewN | apply below_drew1 | refine below_set ?_ GE163.out) | exact HB.out)⟩⟩
    · rw [if_neg c4] at H
      have c4b0 : decide (a0_1 < 0) = false := decide_eq_false c4
      clear c4
      (first | rw [c4b0] | (simp only [i64_w, i32_w]; rw [c4b0]) | skip)
      by_cases c6 : a0_3 < 0
      · rw [if_pos c6] at H
        have c6b0 : decide (a0_3 < 0) = true := decide_eq_true c6
        clear c6
        have H' := Aside0.mk H
        clear H
        have hcz7_0 : w3.cell? ⟨gb163, 0, none⟩ = some (.int .i64 a0_0) := (blk_cell BK163.out 0).trans rfl
        have hcz7_1 : w3.cell? ⟨gb163, 1, none⟩ = some (.int .i64 a0_1) := (blk_cell BK163.out 1).trans rfl
        have hcz7_2 : w3.cell? ⟨gb163, 2, none⟩ = some (.bool a0_2) := (blk_cell BK163.out 2).trans rfl
        have hcz7_3 : w3.cell? ⟨gb163, 3, none⟩ = some (.int .i64 a0_3) := (blk_cell BK163.out 3).trans rfl
        have hcz7_4 : w3.cell? ⟨gb163, 4, none⟩ = some (.int .i64 a0_4) := (blk_cell BK163.out 4).trans rfl
        have hcz7_5 : w3.cell? ⟨gb163, 5, none⟩ = some (.bool a0_5) := (blk_cell BK163.out 5).trans rfl
        have hfz7_0 := blk_frozen BK163.out 0
        have hfz7_1 := blk_frozen BK163.out 1
        have hfz7_2 := blk_frozen BK163.out 2
        have hfz7_3 := blk_frozen BK163.out 3
        have hfz7_4 := blk_frozen BK163.out 4
        have hfz7_5 := blk_frozen BK163.out 5
        go_wp2
        go_meet
        case rel => exact ⟨_, (true), (by first | rfl | (simp; done) | (simp [*]; done)), H', ⟨by first | omega | exact Nat.le_refl _⟩, ⟨by (with_reducible repeat (first | refine blk_drewN ?_ _ | refine blk_drew ?_ | refine blk_alloc ?_ _)); exact BK163.out⟩, ⟨by repeat (first | (with_reducible first | exact HB.out | apply below_alloc | apply pw_below_drewN | apply below_drew1 | refine below_set ?_ GE163.out) | exact HB.out)⟩⟩
      · rw [if_neg c6] at H
        have c6b0 : decide (a0_3 < 0) = false := decide_eq_false c6
        clear c6
        have H' := Aside0.mk H
        clear H
        have hcz8_0 : w3.cell? ⟨gb163, 0, none⟩ = some (.int .i64 a0_0) := (blk_cell BK163.out 0).trans rfl
        have hcz8_1 : w3.cell? ⟨gb163, 1, none⟩ = some (.int .i64 a0_1) := (blk_cell BK163.out 1).trans rfl
        have hcz8_2 : w3.cell? ⟨gb163, 2, none⟩ = some (.bool a0_2) := (blk_cell BK163.out 2).trans rfl
        have hcz8_3 : w3.cell? ⟨gb163, 3, none⟩ = some (.int .i64 a0_3) := (blk_cell BK163.out 3).trans rfl
        have hcz8_4 : w3.cell? ⟨gb163, 4, none⟩ = some (.int .i64 a0_4) := (blk_cell BK163.out 4).trans rfl
        have hcz8_5 : w3.cell? ⟨gb163, 5, none⟩ = some (.bool a0_5) := (blk_cell BK163.out 5).trans rfl
        have hfz8_0 := blk_frozen BK163.out 0
        have hfz8_1 := blk_frozen BK163.out 1
        have hfz8_2 := blk_frozen BK163.out 2
        have hfz8_3 := blk_frozen BK163.out 3
        have hfz8_4 := blk_frozen BK163.out 4
        have hfz8_5 := blk_frozen BK163.out 5
        go_wp2
        go_meet
        case rel => exact ⟨_, (decide (a0_4 < 0)), (by first | rfl | (simp; done) | (simp [*]; done)), H', ⟨by first | omega | exact Nat.le_refl _⟩, ⟨by (with_reducible repeat (first | refine blk_drewN ?_ _ | refine blk_drew ?_ | refine blk_alloc ?_ _)); exact BK163.out⟩, ⟨by repeat (first | (with_reducible first | exact HB.out | apply below_alloc | apply pw_below_drewN | apply below_drew1 | refine below_set ?_ GE163.out) | exact HB.out)⟩⟩
  case rest =>
    clear HC2
    try clear p2
    try clear c4
    try clear c4b0
    try clear c6
    try clear c6b0
    try clear hcz5_0
    try clear hcz5_1
    try clear hcz5_2
    try clear hcz5_3
    try clear hcz5_4
    try clear hcz5_5
    try clear hcz7_0
    try clear hcz7_1
    try clear hcz7_2
    try clear hcz7_3
    try clear hcz7_4
    try clear hcz7_5
    try clear hcz8_0
    try clear hcz8_1
    try clear hcz8_2
    try clear hcz8_3
    try clear hcz8_4
    try clear hcz8_5
    try clear hfz5_0
    try clear hfz5_1
    try clear hfz5_2
    try clear hfz5_3
    try clear hfz5_4
    try clear hfz5_5
    try clear hfz7_0
    try clear hfz7_1
    try clear hfz7_2
    try clear hfz7_3
    try clear hfz7_4
    try clear hfz7_5
    try clear hfz8_0
    try clear hfz8_1
    try clear hfz8_2
    try clear hfz8_3
    try clear hfz8_4
    try clear hfz8_5
    obtain ⟨kq, x15_1, rfl, HA, HJ1, BK163, HB⟩ := hcut
    cases kq with
    | zero => exact absurd HA.out (by simp [tegularef45_call.j0])
    | succ kj1 =>
      have H := HA.out
      clear HA
      simp only [tegularef45_call.j0] at H
      by_cases c9 : x15_1 = true
      · subst c9
        have H1 : (some false) = some r := by rw [if_pos rfl] at H; exact H
        clear H
        have H := H1
        clear H1
        obtain rfl := Option.some.inj H
        go_wp2
        go_ret
        exact ⟨by first | rfl | (simp [errW_none, errW_some] <;> rfl) | (simp [*, errW_none, errW_some] <;> rfl), by repeat (first | (with_reducible first | exact HB.out | apply below_alloc | apply pw_below_drewN | apply below_drew1 | refine below_set ?_ GE163.out) | exact HB.out)⟩
      · replace c9 := Bool.eq_false_iff.mpr c9
        subst c9
        have H1 : (if a0_2 = true then (some true) else (if a0_4 = 0 then (if a0_5 = true then (some (a0_3 == 0)) else (some true)) else (some false))) = some r := by rw [if_neg (show ¬ (false = true) by decide)] at H; exact H
        clear H
        have H := H1
        clear H1
        by_cases c10 : a0_2 = true
        · subst c10
          have H1 : (some true) = some r := by rw [if_pos rfl] at H; exact H
          clear H
          have H := H1
          clear H1
          obtain rfl := Option.some.inj H
          have hcz11_0 : wc.cell? ⟨gb163, 0, none⟩ = some (.int .i64 a0_0) := (blk_cell BK163.out 0).trans rfl
          have hcz11_1 : wc.cell? ⟨gb163, 1, none⟩ = some (.int .i64 a0_1) := (blk_cell BK163.out 1).trans rfl
          have hcz11_2 : wc.cell? ⟨gb163, 2, none⟩ = some (.bool true) := (blk_cell BK163.out 2).trans rfl
          have hcz11_3 : wc.cell? ⟨gb163, 3, none⟩ = some (.int .i64 a0_3) := (blk_cell BK163.out 3).trans rfl
          have hcz11_4 : wc.cell? ⟨gb163, 4, none⟩ = some (.int .i64 a0_4) := (blk_cell BK163.out 4).trans rfl
          have hcz11_5 : wc.cell? ⟨gb163, 5, none⟩ = some (.bool a0_5) := (blk_cell BK163.out 5).trans rfl
          have hfz11_0 := blk_frozen BK163.out 0
          have hfz11_1 := blk_frozen BK163.out 1
          have hfz11_2 := blk_frozen BK163.out 2
          have hfz11_3 := blk_frozen BK163.out 3
          have hfz11_4 := blk_frozen BK163.out 4
          have hfz11_5 := blk_frozen BK163.out 5
          go_wp2
          go_ret
          exact ⟨by first | rfl | (simp [errW_none, errW_some] <;> rfl) | (simp [*, errW_none, errW_some] <;> rfl), by repeat (first | (with_reducible first | exact HB.out | apply below_alloc | apply pw_below_drewN | apply below_drew1 | refine below_set ?_ GE163.out) | exact HB.out)⟩
        · replace c10 := Bool.eq_false_iff.mpr c10
          subst c10
          have H1 : (if a0_4 = 0 then (if a0_5 = true then (some (a0_3 == 0)) else (some true)) else (some false)) = some r := by rw [if_neg (show ¬ (false = true) by decide)] at H; exact H
          clear H
          have H := H1
          clear H1
          by_cases c12 : a0_4 = 0
          · rw [if_pos c12] at H
            have c12b0 : (a0_4 == 0) = true := beq_iff_eq.mpr c12
            have c12b1 : (a0_4 != 0) = false := bne_eq_false_iff_eq.mpr c12
            clear c12
            by_cases c13 : a0_5 = true
            · subst c13
              have H1 : (some (a0_3 == 0)) = some r := by rw [if_pos rfl] at H; exact H
              clear H
              have H := H1
              clear H1
              obtain rfl := Option.some.inj H
              have hcz14_0 : wc.cell? ⟨gb163, 0, none⟩ = some (.int .i64 a0_0) := (blk_cell BK163.out 0).trans rfl
              have hcz14_1 : wc.cell? ⟨gb163, 1, none⟩ = some (.int .i64 a0_1) := (blk_cell BK163.out 1).trans rfl
              have hcz14_2 : wc.cell? ⟨gb163, 2, none⟩ = some (.bool false) := (blk_cell BK163.out 2).trans rfl
              have hcz14_3 : wc.cell? ⟨gb163, 3, none⟩ = some (.int .i64 a0_3) := (blk_cell BK163.out 3).trans rfl
              have hcz14_4 : wc.cell? ⟨gb163, 4, none⟩ = some (.int .i64 a0_4) := (blk_cell BK163.out 4).trans rfl
              have hcz14_5 : wc.cell? ⟨gb163, 5, none⟩ = some (.bool true) := (blk_cell BK163.out 5).trans rfl
              have hfz14_0 := blk_frozen BK163.out 0
              have hfz14_1 := blk_frozen BK163.out 1
              have hfz14_2 := blk_frozen BK163.out 2
              have hfz14_3 := blk_frozen BK163.out 3
              have hfz14_4 := blk_frozen BK163.out 4
              have hfz14_5 := blk_frozen BK163.out 5
              go_wp2
              go_ret
              exact ⟨by first | rfl | (simp [errW_none, errW_some] <;> rfl) | (simp [*, errW_none, errW_some] <;> rfl), by repeat (first | (with_reducible first | exact HB.out | apply below_alloc | apply pw_below_drewN | apply below_drew1 | refine below_set ?_ GE163.out) | exact HB.out)⟩
            · replace c13 := Bool.eq_false_iff.mpr c13
              subst c13
              have H1 : (some true) = some r := by rw [if_neg (show ¬ (false = true) by decide)] at H; exact H
              clear H
              have H := H1
              clear H1
              obtain rfl := Option.some.inj H
              have hcz15_0 : wc.cell? ⟨gb163, 0, none⟩ = some (.int .i64 a0_0) := (blk_cell BK163.out 0).trans rfl
              have hcz15_1 : wc.cell? ⟨gb163, 1, none⟩ = some (.int .i64 a0_1) := (blk_cell BK163.out 1).trans rfl
              have hcz15_2 : wc.cell? ⟨gb163, 2, none⟩ = some (.bool false) := (blk_cell BK163.out 2).trans rfl
              have hcz15_3 : wc.cell? ⟨gb163, 3, none⟩ = some (.int .i64 a0_3) := (blk_cell BK163.out 3).trans rfl
              have hcz15_4 : wc.cell? ⟨gb163, 4, none⟩ = some (.int .i64 a0_4) := (blk_cell BK163.out 4).trans rfl
              have hcz15_5 : wc.cell? ⟨gb163, 5, none⟩ = some (.bool false) := (blk_cell BK163.out 5).trans rfl
              have hfz15_0 := blk_frozen BK163.out 0
              have hfz15_1 := blk_frozen BK163.out 1
              have hfz15_2 := blk_frozen BK163.out 2
              have hfz15_3 := blk_frozen BK163.out 3
              have hfz15_4 := blk_frozen BK163.out 4
              have hfz15_5 := blk_frozen BK163.out 5
              go_wp2
              go_ret
              exact ⟨by first | rfl | (simp [errW_none, errW_some] <;> rfl) | (simp [*, errW_none, errW_some] <;> rfl), by repeat (first | (with_reducible first | exact HB.out | apply below_alloc | apply pw_below_drewN | apply below_drew1 | refine below_set ?_ GE163.out) | exact HB.out)⟩
          · rw [if_neg c12] at H
            have c12b0 : (a0_4 == 0) = false := beq_eq_false_iff_ne.mpr c12
            have c12b1 : (a0_4 != 0) = true := bne_iff_ne.mpr c12
            obtain rfl := Option.some.inj H
            have hcz16_0 : wc.cell? ⟨gb163, 0, none⟩ = some (.int .i64 a0_0) := (blk_cell BK163.out 0).trans rfl
            have hcz16_1 : wc.cell? ⟨gb163, 1, none⟩ = some (.int .i64 a0_1) := (blk_cell BK163.out 1).trans rfl
            have hcz16_2 : wc.cell? ⟨gb163, 2, none⟩ = some (.bool false) := (blk_cell BK163.out 2).trans rfl
            have hcz16_3 : wc.cell? ⟨gb163, 3, none⟩ = some (.int .i64 a0_3) := (blk_cell BK163.out 3).trans rfl
            have hcz16_4 : wc.cell? ⟨gb163, 4, none⟩ = some (.int .i64 a0_4) := (blk_cell BK163.out 4).trans rfl
            have hcz16_5 : wc.cell? ⟨gb163, 5, none⟩ = some (.bool a0_5) := (blk_cell BK163.out 5).trans rfl
            have hfz16_0 := blk_frozen BK163.out 0
            have hfz16_1 := blk_frozen BK163.out 1
            have hfz16_2 := blk_frozen BK163.out 2
            have hfz16_3 := blk_frozen BK163.out 3
            have hfz16_4 := blk_frozen BK163.out 4
            have hfz16_5 := blk_frozen BK163.out 5
            go_wp2
            go_ret
            exact ⟨by first | rfl | (simp [errW_none, errW_some] <;> rfl) | (simp [*, errW_none, errW_some] <;> rfl), by repeat (first | (with_reducible first | exact HB.out | apply below_alloc | apply pw_below_drewN | apply below_drew1 | refine below_set ?_ GE163.out) | exact HB.out)⟩

end Go.Proofs.Ytidghmgaaenihaa.Q

/-! part RFind -/
namespace Go.Proofs.Ytidghmgaaenihaa.Q
open Go.RowKit Go.Proofs.YtidghmgaaenihaaW.PrintWords Go.Proofs.YtidghmgaaenihaaW.PrintLast Go.Proofs.YtidghmgaaenihaaW.PrintMore
set_option linter.unusedVariables false
set_option linter.unusedSimpArgs false

def isEv (kind op : Int) (e : S39) : Bool := e.f0 == kind && e.f1 == op
def findI (l : List S39) (kind op : Int) (n : Nat) : Int := match (l.take n).findIdx? (isEv kind op) with | some i => i | none => -1
def cutR (l : List S39) (a b : Nat) : Bool := ((l.take b).drop a).any (fun e => e.f0 == 3)
def callR (e : S39) : Bool := !(decide (e.f1 < 0) || decide (e.f3 < 0) || decide (e.f4 < 0)) && (e.f2 || (e.f4 == 0 && (!e.f5 || e.f3 == 0)))

theorem wrap_succ {x : Int} (h0 : 0 ≤ x) (h1 : x < 9223372036854775807) : wrap64 (x + 1) = x + 1 := by
  unfold wrap64; omega
theorem rd39_at {l : List S39} {x : Int} (h0 : 0 ≤ x) (h : x < l.length) : rd_T39 l x = l[x.toNat]'(by omega) := by
  simp [rd_T39, List.getD_eq_getElem?_getD, show x.toNat < l.length by omega]
theorem find_l0 (l : List S39) (kind op : Int) (n : Nat) (hn : n ≤ l.length) (hsz : l.length ≤ 1000000) : ∀ (d x : Nat), n - x = d → x ≤ n → (∀ e ∈ l.take x, isEv kind op e = false) → tegularef45_find.l0 (d + 1) l kind op n x = some (findI l kind op n)
  | 0, x, hd, hx, hno => by
    obtain rfl : x = n := by omega
    rw [tegularef45_find.l0, if_neg (by omega)]
    have : (l.take x).findIdx? (isEv kind op) = none := List.findIdx?_eq_none_iff.2 hno
    simp only [findI, this]
  | d + 1, x, hd, hx, hno => by
    have hxl : x < l.length := by omega
    have hr : rd_T39 l (x : Int) = l[x] := by rw [rd39_at (by omega) (by omega)]; simp
    have ih := find_l0 l kind op n hn hsz d (x + 1) (by omega) (by omega)
    rw [tegularef45_find.l0, if_pos (by omega), if_pos (by omega), if_pos (by omega), hr, wrap_succ (by omega) (by omega), show ((x : Int) + 1) = ((x + 1 : Nat) : Int) by omega]
    by_cases hm : isEv kind op l[x] = true
    · have h0 : l[x].f0 = kind := by simp [isEv] at hm; exact hm.1
      have h1 : l[x].f1 = op := by simp [isEv] at hm; exact hm.2
      rw [if_pos h0, if_pos h1]
      have : (l.take n).findIdx? (isEv kind op) = some x := by
        refine List.findIdx?_eq_some_iff_getElem.2 ⟨by simp; omega, by simpa using hm, fun j hj => ?_⟩
        rw [hno _ (List.mem_iff_getElem.2 ⟨j, by simp; omega, by simp⟩)]; decide
      simp only [findI, this]
    · have hf : isEv kind op l[x] = false := by simpa using hm
      have ih2 := ih (by
        intro e he
        rw [List.take_succ_eq_append_getElem hxl, List.mem_append, List.mem_singleton] at he
        rcases he with he | rfl
        · exact hno e he
        · exact hf)
      by_cases h0 : l[x].f0 = kind
      · have h1 : ¬ l[x].f1 = op := by intro h1; simp [isEv, h0, h1] at hf
        rw [if_pos h0, if_neg h1]; exact ih2
      · rw [if_neg h0]; exact ih2
theorem find_any (A : Option Addr) (c : Nat) (l : List S39) (kind op : Int) (n : Nat) (w : World) (hr : Kd.C k39 w A l.length l) (hc : l.length ≤ c) (hn : n ≤ l.length) (hsz : l.length ≤ 1000000) :
    Calls Try.prog 97 #[.slice A l.length c, .int .i64 kind, .int .i64 op, .int .i64 n] w fun e w' => e = .returned (.int .i64 (findI l kind op n)) ∧ Drawn0 w w' :=
  tegularef45_find.calls (n + 1) A c l kind op n _ w hr hc (find_l0 l kind op n hn hsz n 0 (by omega) (by omega) (by simp))

theorem cut_l0 (l : List S39) (a n : Nat) (hn : n ≤ l.length) (hsz : l.length ≤ 1000000) : ∀ (d x : Nat), n - x = d → x ≤ n → tegularef45_cut.l0 (d + 1) l n x = some (cutR l x n)
  | 0, x, hd, hx => by
    obtain rfl : x = n := by omega
    rw [tegularef45_cut.l0, if_neg (by omega)]
    simp [cutR]
  | d + 1, x, hd, hx => by
    have hxl : x < l.length := by omega
    have hr : rd_T39 l (x : Int) = l[x] := by rw [rd39_at (by omega) (by omega)]; simp
    have ih := cut_l0 l a n hn hsz d (x + 1) (by omega) (by omega)
    have e : cutR l x n = (l[x].f0 == 3 || cutR l (x + 1) n) := by
      unfold cutR
      rw [List.drop_eq_getElem_cons (show x < (l.take n).length by simp; omega), List.any_cons]
      simp
    rw [tegularef45_cut.l0, if_pos (by omega), if_pos (by omega), if_pos (by omega), hr, wrap_succ (by omega) (by omega), show ((x : Int) + 1) = ((x + 1 : Nat) : Int) by omega, e]
    by_cases h0 : l[x].f0 = 3
    · rw [if_pos h0, h0]; rfl
    · rw [if_neg h0, ih]; simp [h0]
theorem cut_any (A : Option Addr) (c : Nat) (l : List S39) (a n : Nat) (w : World) (hr : Kd.C k39 w A l.length l) (hc : l.length ≤ c) (ha : a ≤ n) (hn : n ≤ l.length) (hsz : l.length ≤ 1000000) :
    Calls Try.prog 79 #[.slice A l.length c, .int .i64 a, .int .i64 n] w fun e w' => e = .returned (.bool (cutR l a n)) ∧ Drawn0 w w' :=
  tegularef45_cut.calls (n - a + 1) A c l a n _ w hr hc (cut_l0 l a n hn hsz (n - a) a rfl ha)

theorem call_f (e : S39) : tegularef45_call.f 1 e.f0 e.f1 e.f2 e.f3 e.f4 e.f5 = some (callR e) := by
  unfold tegularef45_call.f callR
  simp only [tegularef45_call.j0]
  by_cases h1 : e.f1 < 0
  · simp [h1]
  · by_cases h3 : e.f3 < 0
    · simp [h1, h3]
    · by_cases h4 : e.f4 < 0
      · simp [h1, h3, h4]
      · cases h2 : e.f2 <;> by_cases h40 : e.f4 = 0 <;> cases h5 : e.f5 <;> simp [h1, h3, h4, h40]
theorem call_any (e : S39) (w : World) : Calls Try.prog 67 #[.agg #[.int .i64 e.f0, .int .i64 e.f1, .bool e.f2, .int .i64 e.f3, .int .i64 e.f4, .bool e.f5]] w fun e_ w' => e_ = .returned (.bool (callR e)) ∧ Below w.heap.size w w' :=
  tegularef45_call.calls 1 _ _ _ _ _ _ _ w (call_f e)
end Go.Proofs.Ytidghmgaaenihaa.Q

/-! part REvent -/
namespace Go.Proofs.Ytidghmgaaenihaa.Q
open Go.RowKit Go.Proofs.YtidghmgaaenihaaW.PrintWords Go.Proofs.YtidghmgaaenihaaW.PrintLast Go.Proofs.YtidghmgaaenihaaW.PrintMore
set_option linter.unusedVariables false
set_option linter.unusedSimpArgs false

def ansR (e c : S39) : Bool := e.f2 == c.f2 && (e.f5 == c.f5 && (e.f3 == c.f3 && ((!c.f2 && !c.f5) || e.f4 == c.f4)))
def eventE (l : List S39) (i : Nat) (e : S39) : Bool :=
  if e.f0 = 3 then isCut e
  else if e.f0 = 1 then callR e && decide (findI l 1 e.f1 i < 0)
  else if e.f0 = 2 then
    (if findI l 1 e.f1 i < 0 then false else if 0 ≤ findI l 2 e.f1 i then false
     else if cutR l (findI l 1 e.f1 i).toNat i = true then false else ansR e (rd_T39 l (findI l 1 e.f1 i)))
  else false
def eventR (l : List S39) (i : Nat) : Bool := eventE l i (rd_T39 l i)

theorem findI_range (l : List S39) (kind op : Int) (n : Nat) (hn : n ≤ l.length) : -1 ≤ findI l kind op n ∧ findI l kind op n < n := by
  unfold findI
  cases h : (l.take n).findIdx? (isEv kind op) with
  | none => simp only; omega
  | some i =>
    obtain ⟨h1, _⟩ := List.findIdx?_eq_some_iff_getElem.1 h
    rw [List.length_take] at h1
    simp only; omega

attribute [local go_sem high] eqA39
set_option maxHeartbeats 4000000 in
set_option maxRecDepth 100000 in
theorem event_any (A : Option Addr) (c : Nat) (l : List S39) (i : Nat) (w : World) (hr : Kd.C k39 w A l.length l) (hc : l.length ≤ c) (hi : i < l.length) (hsz : l.length ≤ 1000000) :
    Calls Try.prog 69 #[.slice A l.length c, .int .i64 i] w fun e w' => e = .returned (.bool (eventR l i)) ∧ Below w.heap.size w w' := by
  have HR := Aside0.mk hr
  obtain ⟨ad, eA, s0, s1, s2, s3, s4, s5⟩ := at_T39 hr i (by omega) (by omega)
  subst eA
  clear hr
  obtain ⟨e, HE⟩ : ∃ e, Aside0 (rd_T39 l i = e) := ⟨_, ⟨rfl⟩⟩
  rw [HE.out] at s0 s1 s2 s3 s4 s5
  simp only [Int.toNat_natCast] at s0 s1 s2 s3 s4 s5
  have HV : Aside0 (eventR l i = eventE l i e) := ⟨by rw [eventR, HE.out]⟩
  rw [HV.out]
  clear HV HE
  obtain ⟨e0, e1, e2, e3, e4, e5⟩ := e
  simp only at s0 s1 s2 s3 s4 s5
  by_cases h3 : e0 = 3
  · subst h3
    go_enter Try.func69, Try.ntmps69
    go_wp2
    go_ret
    exact ⟨by simp [eventE, isCut], by repeat (first | exact Below.refl _ _ | apply below_alloc | apply pw_below_drewN)⟩
  · have h3b : (e0 == 3) = false := by simpa using h3
    by_cases h1 : e0 = 1
    · subst h1
      clear h3
      obtain ⟨b, hb⟩ : ∃ b, callR ⟨1, e1, e2, e3, e4, e5⟩ = b := ⟨_, rfl⟩
      have HC := Aside0.mk hb
      clear hb
      cases b with
      | false =>
        go_enter Try.func69, Try.ntmps69
        go_wp2_with fail
        (with_reducible refine (call_any ⟨1, e1, e2, e3, e4, e5⟩ _).mono ?_)
        rintro e w1 ⟨rfl, hb⟩
        have HB := Aside0.mk hb
        rw [HC.out]
        clear hb
        go_wp2
        go_ret
        exact ⟨by simp [eventE, HC.out], below_step (below_alloc (Below.refl _ _) _) HB.out⟩
      | true =>
        obtain ⟨f, HF⟩ : ∃ f, Aside0 (findI l 1 e1 i = f) := ⟨_, ⟨rfl⟩⟩
        go_enter Try.func69, Try.ntmps69
        go_wp2_with fail
        (with_reducible refine (call_any ⟨1, e1, e2, e3, e4, e5⟩ _).mono ?_)
        rintro e w1 ⟨rfl, hb⟩
        have HB := Aside0.mk (below_step (below_alloc (Below.refl w.heap.size w) _) hb)
        rw [HC.out]
        have k0 : w1.cell? ⟨w.heap.size, 0, none⟩ = some (.int .i64 1) := (blk_cell (blk_old (blk_new w _) hb) 0).trans rfl
        have k1 : w1.cell? ⟨w.heap.size, 1, none⟩ = some (.int .i64 e1) := (blk_cell (blk_old (blk_new w _) hb) 1).trans rfl
        clear hb
        go_wp2_with fail
        (with_reducible refine (find_any (some ad) c l 1 e1 i _ (Kd.C_below HR.out HB.out) hc (by omega) hsz).mono ?_)
        rintro e w2 ⟨rfl, m, rfl⟩
        rw [HF.out]
        go_wp2
        go_ret
        exact ⟨by simp [eventE, HC.out, HF.out], pw_below_drewN HB.out m⟩
    · have h1b : (e0 == 1) = false := by simpa using h1
      by_cases h2 : e0 = 2
      · subst h2
        clear h3 h1
        obtain ⟨f, HF⟩ : ∃ f, Aside0 (findI l 1 e1 i = f) := ⟨_, ⟨rfl⟩⟩
        have hfr := findI_range l 1 e1 i (by omega)
        rw [HF.out] at hfr
        by_cases hf : f < 0
        · have hfb : decide (f < 0) = true := decide_eq_true hf
          go_enter Try.func69, Try.ntmps69
          go_wp2_with fail
          (with_reducible refine (find_any (some ad) c l 1 e1 i _ (Kd.C_below HR.out (below_alloc (Below.refl w.heap.size w) _)) hc (by omega) hsz).mono ?_)
          rintro e w2 ⟨rfl, m, rfl⟩
          rw [HF.out]
          go_wp2
          go_ret
          exact ⟨by simp [eventE, HF.out, hf], pw_below_drewN (below_alloc (Below.refl w.heap.size w) _) m⟩
        · have hfb : decide (f < 0) = false := decide_eq_false hf
          obtain ⟨k, rfl⟩ : ∃ k : Nat, f = k := ⟨f.toNat, by omega⟩
          obtain ⟨f2, HF2⟩ : ∃ f, Aside0 (findI l 2 e1 i = f) := ⟨_, ⟨rfl⟩⟩
          have HBA := Aside0.mk (fun m => show Below w.heap.size w ((w.alloc (.cells #[.int .i64 2, .int .i64 e1, .bool e2, .int .i64 e3, .int .i64 e4, .bool e5] 39)).drewN m) from pw_below_drewN (below_alloc (Below.refl w.heap.size w) _) m)
          by_cases hf2 : 0 ≤ f2
          · have hf2b : decide (0 ≤ f2) = true := decide_eq_true hf2
            go_enter Try.func69, Try.ntmps69
            go_wp2_with fail
            (with_reducible refine (find_any (some ad) c l 1 e1 i _ (Kd.C_below HR.out (below_alloc (Below.refl w.heap.size w) _)) hc (by omega) hsz).mono ?_)
            rintro e w2 ⟨rfl, m, rfl⟩
            rw [HF.out]
            go_wp2_with fail
            (with_reducible refine (find_any (some ad) c l 2 e1 i _ (Kd.C_below HR.out (HBA.out m)) hc (by omega) hsz).mono ?_)
            rintro e w2 ⟨rfl, m2, rfl⟩
            rw [HF2.out]
            go_wp2
            go_ret
            exact ⟨by simp [eventE, HF.out, HF2.out, hf, hf2], HBA.out (m + m2)⟩
          · have hf2b : decide (0 ≤ f2) = false := decide_eq_false hf2
            obtain ⟨b, HC⟩ : ∃ b, Aside0 (cutR l k i = b) := ⟨_, ⟨rfl⟩⟩
            cases b with
            | true =>
              go_enter Try.func69, Try.ntmps69
              go_wp2_with fail
              (with_reducible refine (find_any (some ad) c l 1 e1 i _ (Kd.C_below HR.out (below_alloc (Below.refl w.heap.size w) _)) hc (by omega) hsz).mono ?_)
              rintro e w2 ⟨rfl, m, rfl⟩
              rw [HF.out]
              go_wp2_with fail
              (with_reducible refine (find_any (some ad) c l 2 e1 i _ (Kd.C_below HR.out (HBA.out m)) hc (by omega) hsz).mono ?_)
              rintro e w2 ⟨rfl, m2, rfl⟩
              rw [HF2.out]
              go_wp2_with fail
              (with_reducible refine (cut_any (some ad) c l k i _ (Kd.C_below HR.out (HBA.out (m + m2))) hc (by omega) (by omega) hsz).mono ?_)
              rintro e w2 ⟨rfl, m3, rfl⟩
              rw [HC.out]
              go_wp2
              go_ret
              exact ⟨by simp [eventE, HF.out, HF2.out, hf, hf2, HC.out], HBA.out (m + m2 + m3)⟩
            | false =>
              obtain ⟨ad2, eA, t0, t1, t2, t3, t4, t5⟩ := at_T39 HR.out k (by omega) (by omega)
              have e := Option.some.inj eA
              subst e
              clear eA
              obtain ⟨cl, HCL⟩ : ∃ cl, Aside0 (rd_T39 l k = cl) := ⟨_, ⟨rfl⟩⟩
              rw [HCL.out] at t0 t1 t2 t3 t4 t5
              simp only [Int.toNat_natCast] at t0 t1 t2 t3 t4 t5
              have HV : Aside0 (eventE l i ⟨2, e1, e2, e3, e4, e5⟩ = ansR ⟨2, e1, e2, e3, e4, e5⟩ cl) := ⟨by simp [eventE, HF.out, HF2.out, hf, hf2, HC.out, HCL.out]⟩
              rw [HV.out]
              clear HV HCL
              obtain ⟨q0, q1, q2, q3, q4, q5⟩ := cl
              simp only at t0 t1 t2 t3 t4 t5
              have fin : ∀ b, ansR ⟨2, e1, e2, e3, e4, e5⟩ ⟨q0, q1, q2, q3, q4, q5⟩ = b → Calls Try.prog 69 #[.slice (some ad) l.length c, .int .i64 i] w fun e w' => e = .returned (.bool b) ∧ Below w.heap.size w w' := by
                intro b hb
                unfold ansR at hb
                simp only at hb
                go_enter Try.func69, Try.ntmps69
                go_wp2_with fail
                (with_reducible refine (find_any (some ad) c l 1 e1 i _ (Kd.C_below HR.out (below_alloc (Below.refl w.heap.size w) _)) hc (by omega) hsz).mono ?_)
                rintro e w2 ⟨rfl, m, rfl⟩
                rw [HF.out]
                go_wp2_with fail
                (with_reducible refine (find_any (some ad) c l 2 e1 i _ (Kd.C_below HR.out (HBA.out m)) hc (by omega) hsz).mono ?_)
                rintro e w2 ⟨rfl, m2, rfl⟩
                rw [HF2.out]
                go_wp2_with fail
                (with_reducible refine (cut_any (some ad) c l k i _ (Kd.C_below HR.out (HBA.out (m + m2))) hc (by omega) (by omega) hsz).mono ?_)
                rintro e w2 ⟨rfl, m3, rfl⟩
                rw [HC.out]
                have HB3 := Aside0.mk (HBA.out (m + m2 + m3))
                have T0 := (HB3.out.cell (World.block_lt_of_cell? w _ t0)).trans t0
                have T1 := (HB3.out.cell (World.block_lt_of_cell? w _ t1)).trans t1
                have T2 := (HB3.out.cell (World.block_lt_of_cell? w _ t2)).trans t2
                have T3 := (HB3.out.cell (World.block_lt_of_cell? w _ t3)).trans t3
                have T4 := (HB3.out.cell (World.block_lt_of_cell? w _ t4)).trans t4
                have T5 := (HB3.out.cell (World.block_lt_of_cell? w _ t5)).trans t5
                cases q2 <;> cases e2 <;> cases q5 <;> cases e5 <;>
                  (simp only [show (false == true) = false from rfl, show (true == false) = false from rfl, show (false == false) = true from rfl, show (true == true) = true from rfl, Bool.true_and, Bool.false_and, Bool.not_true, Bool.not_false, Bool.and_true, Bool.and_false, Bool.true_or, Bool.false_or] at hb
                   first
                   | (cases g3 : (e3 == q3) <;> rw [g3] at hb <;> (simp only [Bool.true_and, Bool.false_and] at hb; subst hb; go_wp2; go_ret; exact ⟨rfl, below_alloc HB3.out _⟩))
                   | (cases g3 : (e3 == q3) <;> rw [g3] at hb <;> (subst hb; go_wp2; go_ret; exact ⟨rfl, below_alloc HB3.out _⟩))
                   | (subst hb; go_wp2; go_ret; exact ⟨rfl, below_alloc HB3.out _⟩))
              exact fin _ rfl
      · have h2b : (e0 == 2) = false := by simpa using h2
        go_enter Try.func69, Try.ntmps69
        go_wp2
        go_ret
        exact ⟨by simp [eventE, h3, h1, h2], by repeat (first | exact Below.refl _ _ | apply below_alloc | apply pw_below_drewN)⟩
end Go.Proofs.Ytidghmgaaenihaa.Q

/-! part RValid -/
namespace Go.Proofs.Ytidghmgaaenihaa.Q
open Go.RowKit Go.Proofs.YtidghmgaaenihaaW.PrintWords Go.Proofs.YtidghmgaaenihaaW.PrintLast Go.Proofs.YtidghmgaaenihaaW.PrintMore
set_option linter.unusedVariables false
set_option linter.unusedSimpArgs false

def validR (l : List S39) : Bool := (List.range l.length).all (eventR l)
theorem validR_no {l : List S39} {x : Nat} (h : x < l.length) (he : eventR l x = false) : validR l = false := by
  unfold validR
  rw [List.all_eq_false]
  exact ⟨x, List.mem_range.2 h, by rw [he]; decide⟩
theorem validR_yes {l : List S39} (h : ∀ j, j < l.length → eventR l j = true) : validR l = true := by
  unfold validR
  rw [List.all_eq_true]
  exact fun x hx => h x (List.mem_range.1 hx)
set_option maxHeartbeats 2000000 in
set_option maxRecDepth 100000 in
theorem valid_any (A : Option Addr) (c : Nat) (l : List S39) (w : World) (hr : Kd.C k39 w A l.length l) (hc : l.length ≤ c) (hsz : l.length ≤ 1000000) :
    Calls Try.prog 40 #[.slice A l.length c] w fun e w' => e = .returned (.bool (validR l)) ∧ Below w.heap.size w w' := by
  have HR := Aside0.mk hr
  clear hr
  go_enter Try.func40, Try.ntmps40
  go_wp2
  go_loopw [3] (fun v3 wr => ∃ x : Nat, x ≤ l.length ∧ v3 = .int .i64 x ∧ Aside0 (∀ j, j < x → eventR l j = true) ∧ Aside0 (Below w.heap.size w wr))
    (fun v3 _ => l.length - (intOf v3).toNat)
  case atStart => exact ⟨0, by omega, rfl, ⟨fun j hj => absurd hj (by omega)⟩, ⟨Below.refl _ _⟩⟩
  case round =>
    obtain ⟨x, hx, rfl, HE, HW⟩ := hrel
    by_cases hlt : x < l.length
    · have hltb : ((x : Int) < (l.length : Int)) := by omega
      cases he : eventR l x with
      | false =>
        have HV := Aside0.mk he
        clear he
        go_wp2_with fail
        (with_reducible refine (event_any A c l x _ (Kd.C_below HR.out HW.out) hc hlt hsz).mono ?_)
        rintro e w1 ⟨rfl, hb⟩
        have HB := Aside0.mk (below_step HW.out hb)
        clear hb
        rw [HV.out]
        go_wp2
        go_ret
        exact ⟨by rw [validR_no hlt HV.out]; rfl, HB.out⟩
      | true =>
        have HV := Aside0.mk he
        clear he
        have hxb : (x : Int) < 1000000 := by omega
        go_wp2_with fail
        (with_reducible refine (event_any A c l x _ (Kd.C_below HR.out HW.out) hc hlt hsz).mono ?_)
        rintro e w1 ⟨rfl, hb⟩
        have HB := Aside0.mk (below_step HW.out hb)
        clear hb
        rw [HV.out]
        go_wp2
        go_roundw
        case rel => exact ⟨x + 1, by omega, by first | rfl | simp, ⟨fun j hj => (Nat.lt_succ_iff_lt_or_eq.1 hj).elim (HE.out j) (fun e => e ▸ HV.out)⟩, HB⟩
        case measure => simp [intOf]; omega
    · obtain rfl : x = l.length := by omega
      go_wp2
      go_ret
      exact ⟨by rw [validR_yes HE.out]; rfl, HW.out⟩
def tegularef45_Valid.f (l0 : List S39) : Option Bool := if l0.length ≤ 1000000 then some (validR l0) else none
theorem tegularef45_Valid.calls (A0 : Option Addr) (c0 : Nat) (l0 : List S39) (r : Bool) (w : World) (hr0 : Kd.C k39 w A0 l0.length l0) (hc0 : l0.length ≤ c0) (h : tegularef45_Valid.f l0 = some r) :
    Calls Try.prog 40 #[.slice A0 l0.length c0] w fun e w' => e = .returned (.bool r) ∧ Below w.heap.size w w' := by
  unfold tegularef45_Valid.f at h
  split at h
  · rename_i hsz
    obtain rfl := Option.some.inj h
    exact valid_any A0 c0 l0 w hr0 hc0 hsz
  · cases h
end Go.Proofs.Ytidghmgaaenihaa.Q

/-! part PValid -/
namespace Go.Proofs.Ytidghmgaaenihaa.Q
open Go.RowKit
set_option linter.unusedVariables false
set_option linter.unusedSimpArgs false

theorem callR_eq (e : S39) : callR e = properB e := by
  unfold callR properB
  by_cases h1 : e.f1 < 0
  · simp [h1]
  · by_cases h3 : e.f3 < 0
    · simp [h1, h3]
    · by_cases h4 : e.f4 < 0
      · simp [h1, h3, h4]
      · cases h2 : e.f2 <;> cases h5 : e.f5 <;> simp [h1, h3, h4]
        all_goals (cases h40 : (e.f4 == 0) <;> cases h30 : (e.f3 == 0) <;> simp_all)
theorem ansR_eq {e c : S39} (h : e.f1 = c.f1) : ansR e c = answersB e c := by
  unfold ansR answersB
  rw [h, beq_self_eq_true]
  cases h2 : (e.f2 == c.f2) <;> cases h5 : (e.f5 == c.f5) <;> cases h3 : (e.f3 == c.f3) <;> cases h4 : (e.f4 == c.f4) <;> simp_all
theorem findI_step (l : List S39) (kind op : Int) (k : Nat) (hk : k < l.length) : findI l kind op (k + 1) = if 0 ≤ findI l kind op k then findI l kind op k else if isEv kind op (rd_T39 l k) = true then (k : Int) else -1 := by
  have hr : rd_T39 l (k : Int) = l[k] := by rw [rd39_at (by omega) (by omega)]; simp
  unfold findI
  rw [List.take_succ_eq_append_getElem hk, List.findIdx?_append, hr]
  cases h : (l.take k).findIdx? (isEv kind op) with
  | some i => simp
  | none =>
    by_cases hm : isEv kind op l[k] = true
    · simp [List.findIdx?_cons, hm, Nat.min_eq_left (Nat.le_of_lt hk)]
    · simp [List.findIdx?_cons, hm]
theorem findI_zero (l : List S39) (kind op : Int) : findI l kind op 0 = -1 := by simp [findI]
theorem cutR_eq (l : List S39) (a b : Nat) (h : a ≤ b) : cutR l a b = decide (cutsN (l.take a) < cutsN (l.take b)) := by
  have e : l.take b = l.take a ++ (l.take b).drop a := by
    conv => lhs; rw [← List.take_append_drop a (l.take b)]
    rw [List.take_take, Nat.min_eq_left h]
  have e2 : cutsN (l.take b) = cutsN (l.take a) + (((l.take b).drop a).filter (fun e => e.f0 == 3)).length := by
    conv => lhs; rw [e]
    unfold cutsN; rw [List.filter_append, List.length_append]
  unfold cutR
  rw [e2]
  cases hc : ((l.take b).drop a).any (fun e => e.f0 == 3) with
  | true =>
    obtain ⟨x, hx, hp⟩ := List.any_eq_true.1 hc
    have : 0 < (((l.take b).drop a).filter (fun e => e.f0 == 3)).length := List.length_pos_of_mem (List.mem_filter.2 ⟨hx, hp⟩)
    exact (decide_eq_true (by omega)).symm
  | false =>
    have : ((l.take b).drop a).filter (fun e => e.f0 == 3) = [] := by
      rw [List.filter_eq_nil_iff]; intro x hx; have := List.any_eq_false.1 hc x hx; simpa using this
    rw [this]; simp

structure TInv (l : List S39) (k : Nat) (s : List S60 × Int) : Prop where
  era : s.2 = cutsN (l.take k)
  ops : ∀ o ∈ s.1, ∃ i : Nat, i < k ∧ o.f6 = i ∧ (rd_T39 l i).f1 = o.f0 ∧ findI l 1 o.f0 k = i ∧ o.f5 = cutsN (l.take i) ∧ (0 ≤ o.f7 ↔ 0 ≤ findI l 2 o.f0 k)
  all : ∀ id, 0 ≤ findI l 1 id k → ∃ o ∈ s.1, o.f0 = id
  fin : ∀ id, 0 ≤ findI l 2 id k → ∃ o ∈ s.1, o.f0 = id
  seq : ∀ o ∈ s.1, o.f7 = -1 ∨ (o.f6 < o.f7 ∧ o.f7 < k)
  cal : ∀ o ∈ s.1, o.f1 = (rd_T39 l o.f6).f3 ∧ o.f3 = (rd_T39 l o.f6).f2 ∧ o.f4 = (rd_T39 l o.f6).f5 ∧ (o.f3 = true → o.f2 = (rd_T39 l o.f6).f4 ∧ 0 ≤ o.f2)

theorem TInv.zero (l : List S39) : TInv l 0 ([], 0) := ⟨by simp [cutsN], by simp, by simp [findI_zero], by simp [findI_zero], by simp, by simp⟩

theorem event_step (l : List S39) (k : Nat) (hk : k < l.length) {s : List S60 × Int} (I : TInv l k s) : eventR l k = (pstep l k (rd_T39 l k) s).isSome := by
  unfold eventR
  generalize rd_T39 l k = e
  unfold eventE pstep
  by_cases h3 : e.f0 = 3
  · rw [if_pos h3, if_neg (by omega), if_neg (by omega), if_pos h3]
    cases isCut e <;> simp
  · rw [if_neg h3]
    by_cases h1 : e.f0 = 1
    · rw [if_pos h1, if_pos h1, callR_eq]
      cases ha : at? s.1 e.f1 with
      | none =>
        have : ¬ 0 ≤ findI l 1 e.f1 k := fun h => by
          obtain ⟨o, ho, e0⟩ := I.all _ h
          exact at?_none ha o ho e0
        rw [decide_eq_true (by omega), Bool.and_true]
        cases properB e <;> simp
      | some j =>
        obtain ⟨j1, j2, j3⟩ := at?_some ha
        obtain ⟨i, _, _, _, hf, _⟩ := I.ops _ j3
        rw [j2] at hf
        rw [decide_eq_false (by omega), Bool.and_false]; rfl
    · rw [if_neg h1, if_neg h1]
      by_cases h2 : e.f0 = 2
      · rw [if_pos h2, if_pos h2]
        cases ha : at? s.1 e.f1 with
        | none =>
          have : ¬ 0 ≤ findI l 1 e.f1 k := fun h => by
            obtain ⟨o, ho, e0⟩ := I.all _ h
            exact at?_none ha o ho e0
          rw [if_pos (by omega)]; rfl
        | some j =>
          obtain ⟨j1, j2, j3⟩ := at?_some ha
          obtain ⟨i, hi, h6, hc, hf, h5, h7⟩ := I.ops _ j3
          rw [j2] at hf hc h7
          rw [hf, if_neg (by omega)]
          simp only
          by_cases hd : 0 ≤ (opAt s.1 j).f7
          · rw [if_pos (h7.1 hd), if_pos hd]; rfl
          · rw [if_neg (fun h => hd (h7.2 h)), if_neg hd, Int.toNat_natCast, cutR_eq l i k (by omega), I.era, h5]
            have hle : cutsN (l.take i) ≤ cutsN (l.take k) := by
              have e0 : l.take i = (l.take k).take i := by rw [List.take_take, Nat.min_eq_left (by omega)]
              rw [e0]
              unfold cutsN
              exact ((List.take_sublist _ _).filter _).length_le
            by_cases hcut : cutsN (l.take i) = cutsN (l.take k)
            · rw [if_neg (by simp; omega), if_pos (by omega), h6, ansR_eq hc.symm]
              cases answersB e (rd_T39 l i) <;> simp
            · rw [if_pos (by simp; omega), if_neg (by omega)]; rfl
      · rw [if_neg h2, if_neg h2, if_neg h3]; rfl

theorem cutsN_succ {l : List S39} {k : Nat} (hk : k < l.length) : cutsN (l.take (k + 1)) = cutsN (l.take k) + if (rd_T39 l k).f0 = 3 then 1 else 0 := by
  have hr : rd_T39 l (k : Int) = l[k] := by rw [rd39_at (by omega) (by omega)]; simp
  rw [List.take_succ_eq_append_getElem hk, hr]
  unfold cutsN
  rw [List.filter_append, List.length_append]
  by_cases hc : l[k].f0 = 3 <;> simp [List.filter_cons, hc]
theorem findI_ge (l : List S39) (kind op : Int) (k : Nat) : -1 ≤ findI l kind op k := by
  unfold findI
  split
  · omega
  · omega
theorem findI_keep {l : List S39} {kind op : Int} {k : Nat} (hk : k < l.length) {i : Nat} (h : findI l kind op k = i) : findI l kind op (k + 1) = i := by
  rw [findI_step l kind op k hk, h, if_pos (by omega)]
theorem findI_same {l : List S39} {kind op : Int} {k : Nat} (hk : k < l.length) (h : isEv kind op (rd_T39 l k) = false) : findI l kind op (k + 1) = findI l kind op k := by
  rw [findI_step l kind op k hk, h]
  have := findI_ge l kind op k
  split
  · rfl
  · rw [if_neg (by decide)]; omega
theorem mem_setAt {ops : List S60} (hnd : ops.Pairwise (fun a b => a.f0 ≠ b.f0)) {j : Nat} (hj : j < ops.length) {x o : S60} (h : o ∈ ops.set j x) : o = x ∨ (o ∈ ops ∧ o.f0 ≠ (opAt ops j).f0) := by
  obtain ⟨i, hi, rfl⟩ := List.mem_iff_getElem.1 h
  rw [List.length_set] at hi
  rw [List.getElem_set]
  split
  · exact .inl rfl
  · rename_i hne
    refine .inr ⟨List.getElem_mem _, ?_⟩
    rw [opAt_get hj]
    rcases Nat.lt_or_gt_of_ne hne with hlt | hgt
    · exact fun e => List.pairwise_iff_getElem.1 hnd j i hj hi hlt e.symm
    · exact List.pairwise_iff_getElem.1 hnd i j hi hj hgt
theorem set_hit {ops : List S60} {j : Nat} (hj : j < ops.length) (x : S60) : x ∈ ops.set j x := List.mem_iff_getElem.2 ⟨j, by simpa using hj, by simp⟩
theorem set_id {ops : List S60} {j : Nat} (hj : j < ops.length) {x : S60} (hx : x.f0 = (opAt ops j).f0) {o : S60} (ho : o ∈ ops) : ∃ o' ∈ ops.set j x, o'.f0 = o.f0 := by
  obtain ⟨i, hi, rfl⟩ := List.mem_iff_getElem.1 ho
  by_cases hij : i = j
  · subst hij
    exact ⟨x, set_hit hi x, by rw [hx, opAt_get hi]⟩
  · exact ⟨ops[i], List.mem_iff_getElem.2 ⟨i, by simpa using hi, by rw [List.getElem_set]; rw [if_neg (fun h => hij h.symm)]⟩, rfl⟩
theorem tinv_step (l : List S39) (k : Nat) (hk : k < l.length) {s s' : List S60 × Int} (h : pstep l k (rd_T39 l k) s = some s') (I : TInv l k s) (P : PInv k s) : TInv l (k + 1) s' := by
  obtain ⟨ops, era⟩ := s
  obtain ⟨i1, i2, i3, i6, i4, i5⟩ := I
  have hnd := P.nodup
  simp only at i1 i2 i3 i4 i5 i6 hnd
  obtain ⟨e, he⟩ : ∃ e, rd_T39 l (k : Int) = e := ⟨_, rfl⟩
  have hcu := cutsN_succ hk
  have hkeep : ∀ kind op, (e.f0 ≠ kind ∨ e.f1 ≠ op) → findI l kind op (k + 1) = findI l kind op k := fun kind op hne => findI_same hk (by
    rw [he]; unfold isEv; rcases hne with hne | hne <;> simp [hne])
  have hhit : ∀ kind op, e.f0 = kind → e.f1 = op → 0 ≤ findI l kind op (k + 1) := fun kind op h0 h1 => by
    rw [findI_step l kind op k hk, he]
    split
    · assumption
    · rw [if_pos (by simp [isEv, h0, h1])]; omega
  rw [he] at h hcu
  unfold pstep at h
  split at h
  · rename_i h1
    split at h
    · cases h
    · rename_i hn
      split at h
      · rename_i hp
        cases h
        have hf1 : findI l 1 e.f1 k = -1 := by
          have := findI_ge l 1 e.f1 k
          by_cases hq : 0 ≤ findI l 1 e.f1 k
          · obtain ⟨o, ho, e0⟩ := i3 _ hq
            exact absurd e0 (at?_none hn o ho)
          · omega
        have hf1' : findI l 1 e.f1 (k + 1) = (k : Int) := by rw [findI_step l 1 e.f1 k hk, hf1, if_neg (by decide), he, if_pos (by simp [isEv, h1])]
        refine ⟨by rw [hcu, if_neg (by omega)]; exact i1, ?_, ?_, ?_, ?_, ?_⟩
        · intro o ho
          simp only [List.mem_append, List.mem_singleton] at ho
          rcases ho with ho | rfl
          · obtain ⟨i, a1, a2, a3, a4, a5, a6⟩ := i2 o ho
            exact ⟨i, by omega, a2, a3, findI_keep hk a4, a5, by rw [hkeep 2 _ (.inl (by omega))]; exact a6⟩
          · refine ⟨k, by omega, rfl, by rw [he]; rfl, hf1', i1, ?_⟩
            simp only [newOp]
            rw [hkeep 2 _ (.inl (by omega))]
            refine ⟨fun h => absurd h (by decide), fun h => ?_⟩
            obtain ⟨o, ho, e0⟩ := i6 _ h
            exact absurd e0 (at?_none hn o ho)
        · intro id hid
          by_cases hq : id = e.f1
          · exact ⟨newOp e era k, by simp, hq.symm ▸ rfl⟩
          · rw [hkeep 1 id (.inr (fun h => hq h.symm))] at hid
            obtain ⟨o, ho, e0⟩ := i3 id hid
            exact ⟨o, by simp [ho], e0⟩
        · intro id hid
          rw [hkeep 2 id (.inl (by omega))] at hid
          obtain ⟨o, ho, e0⟩ := i6 id hid
          exact ⟨o, by simp [ho], e0⟩
        · intro o ho
          simp only [List.mem_append, List.mem_singleton] at ho
          rcases ho with ho | rfl
          · have := i4 o ho; omega
          · exact .inl rfl
        · intro o ho
          simp only [List.mem_append, List.mem_singleton] at ho
          rcases ho with ho | rfl
          · exact i5 o ho
          · simp only [newOp, he]
            refine ⟨trivial, trivial, trivial, fun _ => ⟨trivial, ?_⟩⟩
            unfold properB at hp
            split at hp
            · cases hp
            · split at hp
              · cases hp
              · split at hp
                · cases hp
                · omega
      · cases h
  · rename_i h1
    split at h
    · rename_i h2
      split at h
      · cases h
      · rename_i j hj
        obtain ⟨j1, j2, j3⟩ := at?_some hj
        split at h
        · cases h
        · rename_i hnd7
          split at h
          · rename_i hera
            split at h
            · rename_i hans
              cases h
              obtain ⟨i, a1, a2, a3, a4, a5, a6⟩ := i2 _ j3
              have hke : ∀ o : S60, o.f0 ≠ (opAt ops j).f0 → findI l 2 o.f0 (k + 1) = findI l 2 o.f0 k := fun o hne => hkeep 2 _ (.inr (fun h => hne (by rw [← h, j2])))
              refine ⟨by rw [hcu, if_neg (by omega)]; exact i1, ?_, ?_, ?_, ?_, ?_⟩
              · intro o ho
                rcases mem_setAt hnd j1 ho with rfl | ⟨ho, hne⟩
                · refine ⟨i, by omega, a2, a3, findI_keep hk a4, a5, ?_⟩
                  simp only [doneOp]
                  refine ⟨fun _ => ?_, fun _ => by omega⟩
                  rw [j2]
                  exact hhit 2 _ h2 rfl
                · obtain ⟨i', b1, b2, b3, b4, b5, b6⟩ := i2 o ho
                  exact ⟨i', by omega, b2, b3, findI_keep hk b4, b5, by rw [hke o hne]; exact b6⟩
              · intro id hid
                rw [hkeep 1 id (.inl (by omega))] at hid
                obtain ⟨o, ho, rfl⟩ := i3 id hid
                exact set_id j1 (x := doneOp (opAt ops j) e k) rfl ho
              · intro id hid
                by_cases hq : id = e.f1
                · exact ⟨_, set_hit j1 _, by rw [hq]; exact j2⟩
                · rw [hkeep 2 id (.inr (fun h => hq h.symm))] at hid
                  obtain ⟨o, ho, rfl⟩ := i6 id hid
                  exact set_id j1 (x := doneOp (opAt ops j) e k) rfl ho
              · intro o ho
                rcases mem_setAt hnd j1 ho with rfl | ⟨ho, hne⟩
                · have a2' : (opAt ops j).f6 = i := a2
                  simp only [doneOp]; omega
                · have := i4 o ho; omega
              · intro o ho
                rcases mem_setAt hnd j1 ho with rfl | ⟨ho, hne⟩
                · obtain ⟨c1, c2, c3, c4⟩ := i5 _ j3
                  simp only [doneOp]
                  refine ⟨c1, c2, c3, fun hw => ?_⟩
                  obtain ⟨c5, c6⟩ := c4 hw
                  unfold answersB at hans
                  rw [← c2, hw, ← c5] at hans
                  simp only [Bool.and_eq_true, beq_iff_eq, Bool.or_eq_true] at hans
                  obtain ⟨⟨⟨⟨_, d2⟩, _⟩, d4⟩, _⟩ := hans
                  rw [d2] at d4
                  simp at d4
                  exact ⟨by rw [d4, c5], by rw [d4]; exact c6⟩
                · exact i5 o ho
            · cases h
          · cases h
    · rename_i h2
      split at h
      · rename_i h3
        split at h
        · cases h
          refine ⟨by rw [hcu, if_pos h3]; simp only; omega, ?_, ?_, ?_, ?_, i5⟩
          · intro o ho
            obtain ⟨i, a1, a2, a3, a4, a5, a6⟩ := i2 o ho
            exact ⟨i, by omega, a2, a3, findI_keep hk a4, a5, by rw [hkeep 2 _ (.inl (by omega))]; exact a6⟩
          · intro id hid
            rw [hkeep 1 id (.inl (by omega))] at hid
            exact i3 id hid
          · intro id hid
            rw [hkeep 2 id (.inl (by omega))] at hid
            exact i6 id hid
          · intro o ho
            have := i4 o ho; omega
        · cases h
      · cases h
theorem tinv (l : List S39) : ∀ k, k ≤ l.length → ∀ s, ptake l k = some s → TInv l k s ∧ (∀ j, j < k → eventR l j = true)
  | 0, _, s, h => by
    cases h
    exact ⟨TInv.zero l, fun j hj => absurd hj (by omega)⟩
  | k + 1, hk, s', h => by
    rw [ptake] at h
    obtain ⟨s, hs, hp⟩ := Option.bind_eq_some_iff.1 h
    obtain ⟨I, hE⟩ := tinv l k (by omega) s hs
    refine ⟨tinv_step l k hk hp I (ptake_inv l k hs), fun j hj => ?_⟩
    rcases Nat.lt_succ_iff_lt_or_eq.1 hj with hj | rfl
    · exact hE j hj
    · rw [event_step l j hk I, hp]; rfl
theorem tinv_all (l : List S39) : ∀ k, k ≤ l.length → (∀ j, j < k → eventR l j = true) → ∃ s, ptake l k = some s
  | 0, _, _ => ⟨_, rfl⟩
  | k + 1, hk, h => by
    obtain ⟨s, hs⟩ := tinv_all l k (by omega) (fun j hj => h j (by omega))
    have hI := (tinv l k (by omega) s hs).1
    have := h k (by omega)
    rw [event_step l k hk hI] at this
    obtain ⟨s', hs'⟩ := Option.isSome_iff_exists.1 this
    exact ⟨s', by rw [ptake, hs]; exact hs'⟩
/-- A list is valid by the document exactly if history.parse takes it. -/
theorem valid_parse (l : List S39) : validR l = (parseP l).isSome := by
  cases h : parseP l with
  | some s => exact validR_yes (tinv l l.length (Nat.le_refl _) s h).2
  | none =>
    cases hv : validR l with
    | false => rfl
    | true =>
      have : ∀ j, j < l.length → eventR l j = true := fun j hj => by
        unfold validR at hv
        exact List.all_eq_true.1 hv j (List.mem_range.2 hj)
      obtain ⟨s, hs⟩ := tinv_all l l.length (Nat.le_refl _) this
      unfold parseP at h
      rw [hs] at h
      cases h
end Go.Proofs.Ytidghmgaaenihaa.Q

/-! part Q33 -/
namespace Go.Proofs.Ytidghmgaaenihaa.Q
open Go.RowKit Go.Proofs.YtidghmgaaenihaaW.PrintWords Go.Proofs.YtidghmgaaenihaaW.PrintLast Go.Proofs.YtidghmgaaenihaaW.PrintMore
attribute [local go_sem] max2_int min2_int max_two min_two max_three min_three max_four min_four
set_option linter.unusedVariables false
set_option linter.unusedSimpArgs false

/-! ### tegularef45_Ops: function 33 -/
mutual
def tegularef45_Ops.l0 : Nat → List (S39) → List (S59) → Int → Int → Option ((List (S59)) × Int)
  | 0, _, _, _, _ => none
  | k + 1, x0, x4, x5, x6 => if x6 < (x0.length : Int) then (if 0 ≤ x6 then (if ((rd_T39 x0 x6).f0) = 3 then (tegularef45_Ops.l0 k x0 x4 (wrap64 (x5 + 1)) (wrap64 (x6 + 1))) else (if ((rd_T39 x0 x6).f0) = 1 then (if x4.length < 2513169434916 then (tegularef45_Ops.l0 k x0 (x4 ++ [(⟨(rd_T39 x0 x6).f1, (rd_T39 x0 x6).f3, (rd_T39 x0 x6).f4, (rd_T39 x0 x6).f2, (rd_T39 x0 x6).f5, x5, x6, (-1)⟩ : S59)]) x5 (wrap64 (x6 + 1))) else (none)) else (tegularef45_Ops.l1 k x0 x4 x5 x6 0 ((rd_T39 x0 x6).f0) ((rd_T39 x0 x6).f1) ((rd_T39 x0 x6).f2) ((rd_T39 x0 x6).f3) ((rd_T39 x0 x6).f4) ((rd_T39 x0 x6).f5)))) else (none)) else (some (x4, 0))
def tegularef45_Ops.l1 : Nat → List (S39) → List (S59) → Int → Int → Int → Int → Int → Bool → Int → Int → Bool → Option ((List (S59)) × Int)
  | 0, _, _, _, _, _, _, _, _, _, _, _ => none
  | k + 1, x0, x4, x5, x6, x8, x179000, x179001, x179002, x179003, x179004, x179005 => if x8 < (x4.length : Int) then (if 0 ≤ x8 then (if ((rd_T59 x4 x8).f0) = x179001 then ((some (x4.set (x8 : Int).toNat (⟨(rd_T59 x4 x8).f0, (rd_T59 x4 x8).f1, x179004, (rd_T59 x4 x8).f3, (rd_T59 x4 x8).f4, (rd_T59 x4 x8).f5, (rd_T59 x4 x8).f6, (rd_T59 x4 x8).f7⟩ : S59) : List (S59))).bind fun y183 => (tegularef45_Ops.l1 k x0 (y183.set (x8 : Int).toNat (⟨(rd_T59 y183 x8).f0, (rd_T59 y183 x8).f1, (rd_T59 y183 x8).f2, (rd_T59 y183 x8).f3, (rd_T59 y183 x8).f4, (rd_T59 y183 x8).f5, (rd_T59 y183 x8).f6, x6⟩ : S59)) x5 x6 (wrap64 (x8 + 1)) x179000 x179001 x179002 x179003 x179004 x179005)) else (tegularef45_Ops.l1 k x0 x4 x5 x6 (wrap64 (x8 + 1)) x179000 x179001 x179002 x179003 x179004 x179005)) else (none)) else (tegularef45_Ops.l0 k x0 x4 x5 (wrap64 (x6 + 1)))
end
def tegularef45_Ops.f (k : Nat) (l0 : List (S39)) : Option ((List (S59)) × Int) := (tegularef45_Valid.f l0).bind fun t176 => (if t176 = true then (tegularef45_Ops.l0 k l0 ([] : List (S59)) 0 0) else (some (([] : List (S59)), 1)))
theorem tegularef45_Ops.mono_l : ∀ k, (∀ y0 y1 y2 y3, LeO (tegularef45_Ops.l0 k y0 y1 y2 y3) (tegularef45_Ops.l0 (k + 1) y0 y1 y2 y3)) ∧ (∀ y0 y1 y2 y3 y4 y5 y6 y7 y8 y9 y10, LeO (tegularef45_Ops.l1 k y0 y1 y2 y3 y4 y5 y6 y7 y8 y9 y10) (tegularef45_Ops.l1 (k + 1) y0 y1 y2 y3 y4 y5 y6 y7 y8 y9 y10))
  | 0 => ⟨fun _ _ _ _ r h => by simp [tegularef45_Ops.l0] at h, fun _ _ _ _ _ _ _ _ _ _ _ r h => by simp [tegularef45_Ops.l1] at h⟩
  | k + 1 => by
    obtain ⟨ih0, ih1⟩ := tegularef45_Ops.mono_l k
    refine ⟨?_, ?_⟩
    · intro y0 y1 y2 y3
      unfold tegularef45_Ops.l0
      repeat' first
      | (with_reducible exact ih0 _ _ _ _)
      | (with_reducible exact ih1 _ _ _ _ _ _ _ _ _ _ _)
      | (with_reducible exact LeO.refl _)
      | (with_reducible exact LeO.none _)
      | (with_reducible refine LeO.ite ?_ ?_)
      | (with_reducible refine LeO.bind ?_ (fun _ => ?_))
      | exact ih0 _ _ _ _
      | exact ih1 _ _ _ _ _ _ _ _ _ _ _
      | exact LeO.none _
      | refine LeO.ite ?_ ?_
      | refine LeO.bind ?_ (fun _ => ?_)
    · intro y0 y1 y2 y3 y4 y5 y6 y7 y8 y9 y10
      unfold tegularef45_Ops.l1
      repeat' first
      | (with_reducible exact ih0 _ _ _ _)
      | (with_reducible exact ih1 _ _ _ _ _ _ _ _ _ _ _)
      | (with_reducible exact LeO.refl _)
      | (with_reducible exact LeO.none _)
      | (with_reducible refine LeO.ite ?_ ?_)
      | (with_reducible refine LeO.bind ?_ (fun _ => ?_))
      | exact ih0 _ _ _ _
      | exact ih1 _ _ _ _ _ _ _ _ _ _ _
      | exact LeO.none _
      | refine LeO.ite ?_ ?_
      | refine LeO.bind ?_ (fun _ => ?_)
theorem tegularef45_Ops.mono : ∀ a0 k, LeO (tegularef45_Ops.f k a0) (tegularef45_Ops.f (k + 1) a0) := by
  intro a0 k
  obtain ⟨ih0, ih1⟩ := tegularef45_Ops.mono_l k
  unfold tegularef45_Ops.f
  repeat' first
      | (with_reducible exact ih0 _ _ _ _)
      | (with_reducible exact ih1 _ _ _ _ _ _ _ _ _ _ _)
      | (with_reducible exact LeO.refl _)
      | (with_reducible exact LeO.none _)
      | (with_reducible refine LeO.ite ?_ ?_)
      | (with_reducible refine LeO.bind ?_ (fun _ => ?_))
      | exact ih0 _ _ _ _
      | exact ih1 _ _ _ _ _ _ _ _ _ _ _
      | exact LeO.none _
      | refine LeO.ite ?_ ?_
      | refine LeO.bind ?_ (fun _ => ?_)
set_option maxHeartbeats 8000000 in
set_option maxRecDepth 100000 in
theorem tegularef45_Ops.calls (k : Nat) (A0 : Option Addr) (c0 : Nat) (l0 : List (S39)) (r1 : List (S59)) (r2 : Int) (w : World) (hr0 : Kd.C k39 w A0 l0.length l0) (hc0 : l0.length ≤ c0) (h : tegularef45_Ops.f k l0 = some (r1, r2)) :
    Calls Try.prog 33 #[.slice A0 l0.length c0] w fun e w' => ∃ v0_ : Value, e = .returned (.tuple #[v0_, .int .i64 r2]) ∧ Kd.R k59 59 w' w.heap.size (fun _ => True) v0_ r1 ∧ Below w.heap.size w w' := by
  have hu39 := Try.underlying39
  have hu59 := Try.underlying59
  have HR0 := Aside0.mk hr0
  have HC0 := Aside0.mk hc0
  clear hr0 hc0
  have HB := Aside0.mk (Below.refl w.heap.size w)
  have H : ((tegularef45_Valid.f l0).bind fun t176 => (if t176 = true then (tegularef45_Ops.l0 k l0 ([] : List (S59)) 0 0) else (some (([] : List (S59)), 1)))) = some (r1, r2) := h
  clear h
  replace H := Option.bind_eq_some_iff.mp H
  obtain ⟨t176, A20, H⟩ := H
  replace H : (if t176 = true then (tegularef45_Ops.l0 k l0 ([] : List (S59)) 0 0) else (some (([] : List (S59)), 1))) = some (r1, r2) := H
  have A2 := Aside0.mk A20
  clear A20
  by_cases c3 : t176 = true
  · subst c3
    have H1 : (tegularef45_Ops.l0 k l0 ([] : List (S59)) 0 0) = some (r1, r2) := by rw [if_pos rfl] at H; exact H
    clear H
    have H := H1
    clear H1
    have H' := Aside0.mk H
    clear H
    go_enter Try.func33, Try.ntmps33
    go_wp2_with (first | (go_at_call 40; (with_reducible refine (tegularef45_Valid.calls _ _ l0 true _ ?side1 ?side2 A2.out).mono ?_); (case side1 => repeat (first | exact HR0.out | (with_reducible refine Kd.C_alloc ?_ _) | (with_reducible refine Kd.C_drewN ?_ _) | (with_reducible refine Kd.C_drew ?_))); (case side2 => exact HC0.out); rintro e w4 ⟨rfl, hb⟩; have n0_ := Aside0.mk (below_step (by repeat (first | (with_reducible first | exact HB.out | apply below_alloc | apply pw_below_drewN | apply below_drew1) | exact HB.out)) hb); clear HB; have HB := n0_; clear n0_; (try clear hb); (try clear hb2); (try clear hk); (try clear hi)))
    repeat (go_quiet (first | (go_at_call 40; (with_reducible refine (tegularef45_Valid.calls _ _ l0 true _ ?side1 ?side2 A2.out).mono ?_); (case side1 => repeat (first | exact HR0.out | (with_reducible refine Kd.C_alloc ?_ _) | (with_reducible refine Kd.C_drewN ?_ _) | (with_reducible refine Kd.C_drew ?_))); (case side2 => exact HC0.out); rintro e w4 ⟨rfl, hb⟩; have n0_ := Aside0.mk (below_step (by repeat (first | (with_reducible first | exact HB.out | apply below_alloc | apply pw_below_drewN | apply below_drew1) | exact HB.out)) hb); clear HB; have HB := n0_; clear n0_; (try clear hb); (try clear hb2); (try clear hk); (try clear hi))); try go_wp2_with (first | (go_at_call 40; (with_reducible refine (tegularef45_Valid.calls _ _ l0 true _ ?side1 ?side2 A2.out).mono ?_); (case side1 => repeat (first | exact HR0.out | (with_reducible refine Kd.C_alloc ?_ _) | (with_reducible refine Kd.C_drewN ?_ _) | (with_reducible refine Kd.C_drew ?_))); (case side2 => exact HC0.out); rintro e w4 ⟨rfl, hb⟩; have n0_ := Aside0.mk (below_step (by repeat (first | (with_reducible first | exact HB.out | apply below_alloc | apply pw_below_drewN | apply below_drew1) | exact HB.out)) hb); clear HB; have HB := n0_; clear n0_; (try clear hb); (try clear hb2); (try clear hk); (try clear hi))))
    go_loopg [4, 5, 6] k (fun kq v4 v5 v6 w' => ∃ (x4_1 : List (S59)) (x5_1 : Int) (x6_1 : Int), v5 = .int .i64 x5_1 ∧ v6 = .int .i64 x6_1 ∧ Aside0 (tegularef45_Ops.l0 kq l0 x4_1 x5_1 x6_1 = some (r1, r2)) ∧ Aside0 (kq ≤ k) ∧ Aside0 (Kd.R k59 59 w' w.heap.size (fun _ => True) v4 x4_1) ∧ Aside0 (Below w.heap.size w w'))
    case atStart => exact ⟨(([] : List (S59))), (0), (0), (by first | rfl | (simp; done) | (simp [*]; done)), (by first | rfl | (simp; done) | (simp [*]; done)), H', ⟨Nat.le_refl _⟩, ⟨by first | exact Kd.R_nil _ _ _ _ _ | exact Kd.N_nil _ _ _ _ _ | exact Kd.V_nil _ _ _ _ _ | exact Kd.Q_nil _ _ _ _ _ | exact Kd.S_nil _ _ _ _ _⟩, ⟨by repeat (first | (with_reducible first | exact HB.out | apply below_alloc | apply pw_below_drewN | apply below_drew1) | exact HB.out)⟩⟩
    case round =>
      clear H'
      try clear p2
      try clear c3
      obtain ⟨x4_1, x5_1, x6_1, rfl, rfl, HA, HK1, HO_4, HB⟩ := hrel
      cases gk with
      | zero => exact absurd HA.out (by simp [tegularef45_Ops.l0])
      | succ k1 =>
        have H := HA.out
        clear HA
        simp only [tegularef45_Ops.l0] at H
        by_cases c5 : x6_1 < (l0.length : Int)
        · rw [if_pos c5] at H
          have c5b0 : decide (x6_1 < (l0.length : Int)) = true := decide_eq_true c5
          clear c5
          by_cases c6 : 0 ≤ x6_1
          · rw [if_pos c6] at H
            have c6b0 : decide (0 ≤ x6_1) = true := decide_eq_true c6
            clear c6
            by_cases c7 : ((rd_T39 l0 x6_1).f0) = 3
            · rw [if_pos c7] at H
              have c7b0 : (((rd_T39 l0 x6_1).f0) == 3) = true := beq_iff_eq.mpr c7
              have c7b1 : (((rd_T39 l0 x6_1).f0) != 3) = false := bne_eq_false_iff_eq.mpr c7
              clear c7
              have H' := Aside0.mk H
              clear H
              have p177 : 0 ≤ (x6_1 : Int) := of_decide_eq_true (by first | (with_reducible assumption) | assumption)
              have q177 : x6_1 < (l0.length : Int) := of_decide_eq_true (by first | (with_reducible assumption) | assumption)
              obtain ⟨ad177, e177, hx177_0, hx177_1, hx177_2, hx177_3, hx177_4, hx177_5⟩ := at_T39 HR0.out x6_1 p177 q177
              cases e177
              replace hx177_0 := (HB.out.cell (World.block_lt_of_cell? w _ hx177_0)).trans hx177_0
              replace hx177_1 := (HB.out.cell (World.block_lt_of_cell? w _ hx177_1)).trans hx177_1
              replace hx177_2 := (HB.out.cell (World.block_lt_of_cell? w _ hx177_2)).trans hx177_2
              replace hx177_3 := (HB.out.cell (World.block_lt_of_cell? w _ hx177_3)).trans hx177_3
              replace hx177_4 := (HB.out.cell (World.block_lt_of_cell? w _ hx177_4)).trans hx177_4
              replace hx177_5 := (HB.out.cell (World.block_lt_of_cell? w _ hx177_5)).trans hx177_5
              replace p177 := eq_true p177
              replace q177 := eq_true q177
              go_wp2_with (first | ((with_reducible refine gate_dst (N := 7) rfl ?_); refine box_event ?hg (N := 7) ?hd (cs := #[.int .i64 0, .int .i64 0, .bool false, .int .i64 0, .int .i64 0, .bool false]) (t := 39) ?hr ?_; (case hd => rfl); (case hg => rfl); (case hr => first | (go_simp; done) | (go_simp; rfl)); intro gb178 hg w8 hbox hb; have n0_ := Aside0.mk (Kd.R_below (by (with_reducible repeat (first | apply Kd.R_alloc | apply Kd.R_drewN | apply Kd.R_drew)); exact HO_4.out) hb); have n1_ := Aside0.mk (below_step (by repeat (first | (with_reducible first | exact HB.out | apply below_alloc | apply pw_below_drewN | apply below_drew1) | exact HB.out)) hb); have n2_ := Aside0.mk (hbox); have n3_ := Aside0.mk ((by rw [hg]; exact (below_size (by repeat (first | (with_reducible first | exact HB.out | apply below_alloc | apply pw_below_drewN | apply below_drew1) | exact HB.out))) : w.heap.size ≤ gb178)); have n4_ := Aside0.mk ((by rw [hg]; exact (below_size (by repeat (first | (with_reducible first | exact HB.out | apply below_alloc | apply pw_below_drewN | apply below_drew1) | exact HB.out))) : w.heap.size ≤ gb178)); clear HO_4; clear HB; have HO_4 := n0_; have HB := n1_; have BK178 := n2_; have GW178 := n3_; have GE178 := n4_; clear n0_ n1_ n2_ n3_ n4_; clear hb hbox hg; have hcz9_0 : w8.cell? ⟨gb178, 0, none⟩ = some (.int .i64 0) := (blk_cell BK178.out 0).trans rfl; have hcz9_1 : w8.cell? ⟨gb178, 1, none⟩ = some (.int .i64 0) := (blk_cell BK178.out 1).trans rfl; have hcz9_2 : w8.cell? ⟨gb178, 2, none⟩ = some (.bool false) := (blk_cell BK178.out 2).trans rfl; have hcz9_3 : w8.cell? ⟨gb178, 3, none⟩ = some (.int .i64 0) := (blk_cell BK178.out 3).trans rfl; have hcz9_4 : w8.cell? ⟨gb178, 4, none⟩ = some (.int .i64 0) := (blk_cell BK178.out 4).trans rfl; have hcz9_5 : w8.cell? ⟨gb178, 5, none⟩ = some (.bool false) := (blk_cell BK178.out 5).trans rfl; have hfz9_0 := blk_frozen BK178.out 0; have hfz9_1 := blk_frozen BK178.out 1; have hfz9_2 := blk_frozen BK178.out 2; have hfz9_3 := blk_frozen BK178.out 3; have hfz9_4 := blk_frozen BK178.out 4; have hfz9_5 := blk_frozen BK178.out 5))
              repeat (go_quiet (first | ((with_reducible refine gate_dst (N := 7) rfl ?_); refine box_event ?hg (N := 7) ?hd (cs := #[.int .i64 0, .int .i64 0, .bool false, .int .i64 0, .int .i64 0, .bool false]) (t := 39) ?hr ?_; (case hd => rfl); (case hg => rfl); (case hr => first | (go_simp; done) | (go_simp; rfl)); intro gb178 hg w8 hbox hb; have n0_ := Aside0.mk (Kd.R_below (by (with_reducible repeat (first | apply Kd.R_alloc | apply Kd.R_drewN | apply Kd.R_drew)); exact HO_4.out) hb); have n1_ := Aside0.mk (below_step (by repeat (first | (with_reducible first | exact HB.out | apply below_alloc | apply pw_below_drewN | apply below_drew1) | exact HB.out)) hb); have n2_ := Aside0.mk (hbox); have n3_ := Aside0.mk ((by rw [hg]; exact (below_size (by repeat (first | (with_reducible first | exact HB.out | apply below_alloc | apply pw_below_drewN | apply below_drew1) | exact HB.out))) : w.heap.size ≤ gb178)); have n4_ := Aside0.mk ((by rw [hg]; exact (below_size (by repeat (first | (with_reducible first | exact HB.out | apply below_alloc | apply pw_below_drewN | apply below_drew1) | exact HB.out))) : w.heap.size ≤ gb178)); clear HO_4; clear HB; have HO_4 := n0_; have HB := n1_; have BK178 := n2_; have GW178 := n3_; have GE178 := n4_; clear n0_ n1_ n2_ n3_ n4_; clear hb hbox hg; have hcz9_0 : w8.cell? ⟨gb178, 0, none⟩ = some (.int .i64 0) := (blk_cell BK178.out 0).trans rfl; have hcz9_1 : w8.cell? ⟨gb178, 1, none⟩ = some (.int .i64 0) := (blk_cell BK178.out 1).trans rfl; have hcz9_2 : w8.cell? ⟨gb178, 2, none⟩ = some (.bool false) := (blk_cell BK178.out 2).trans rfl; have hcz9_3 : w8.cell? ⟨gb178, 3, none⟩ = some (.int .i64 0) := (blk_cell BK178.out 3).trans rfl; have hcz9_4 : w8.cell? ⟨gb178, 4, none⟩ = some (.int .i64 0) := (blk_cell BK178.out 4).trans rfl; have hcz9_5 : w8.cell? ⟨gb178, 5, none⟩ = some (.bool false) := (blk_cell BK178.out 5).trans rfl; have hfz9_0 := blk_frozen BK178.out 0; have hfz9_1 := blk_frozen BK178.out 1; have hfz9_2 := blk_frozen BK178.out 2; have hfz9_3 := blk_frozen BK178.out 3; have hfz9_4 := blk_frozen BK178.out 4; have hfz9_5 := blk_frozen BK178.out 5)); try go_wp2_with (first | ((with_reducible refine gate_dst (N := 7) rfl ?_); refine box_event ?hg (N := 7) ?hd (cs := #[.int .i64 0, .int .i64 0, .bool false, .int .i64 0, .int .i64 0, .bool false]) (t := 39) ?hr ?_; (case hd => rfl); (case hg => rfl); (case hr => first | (go_simp; done) | (go_simp; rfl)); intro gb178 hg w8 hbox hb; have n0_ := Aside0.mk (Kd.R_below (by (with_reducible repeat (first | apply Kd.R_alloc | apply Kd.R_drewN | apply Kd.R_drew)); exact HO_4.out) hb); have n1_ := Aside0.mk (below_step (by repeat (first | (with_reducible first | exact HB.out | apply below_alloc | apply pw_below_drewN | apply below_drew1) | exact HB.out)) hb); have n2_ := Aside0.mk (hbox); have n3_ := Aside0.mk ((by rw [hg]; exact (below_size (by repeat (first | (with_reducible first | exact HB.out | apply below_alloc | apply pw_below_drewN | apply below_drew1) | exact HB.out))) : w.heap.size ≤ gb178)); have n4_ := Aside0.mk ((by rw [hg]; exact (below_size (by repeat (first | (with_reducible first | exact HB.out | apply below_alloc | apply pw_below_drewN | apply below_drew1) | exact HB.out))) : w.heap.size ≤ gb178)); clear HO_4; clear HB; have HO_4 := n0_; have HB := n1_; have BK178 := n2_; have GW178 := n3_; have GE178 := n4_; clear n0_ n1_ n2_ n3_ n4_; clear hb hbox hg; have hcz9_0 : w8.cell? ⟨gb178, 0, none⟩ = some (.int .i64 0) := (blk_cell BK178.out 0).trans rfl; have hcz9_1 : w8.cell? ⟨gb178, 1, none⟩ = some (.int .i64 0) := (blk_cell BK178.out 1).trans rfl; have hcz9_2 : w8.cell? ⟨gb178, 2, none⟩ = some (.bool false) := (blk_cell BK178.out 2).trans rfl; have hcz9_3 : w8.cell? ⟨gb178, 3, none⟩ = some (.int .i64 0) := (blk_cell BK178.out 3).trans rfl; have hcz9_4 : w8.cell? ⟨gb178, 4, none⟩ = some (.int .i64 0) := (blk_cell BK178.out 4).trans rfl; have hcz9_5 : w8.cell? ⟨gb178, 5, none⟩ = some (.bool false) := (blk_cell BK178.out 5).trans rfl; have hfz9_0 := blk_frozen BK178.out 0; have hfz9_1 := blk_frozen BK178.out 1; have hfz9_2 := blk_frozen BK178.out 2; have hfz9_3 := blk_frozen BK178.out 3; have hfz9_4 := blk_frozen BK178.out 4; have hfz9_5 := blk_frozen BK178.out 5)))
              go_roundg k1
              case measure => have := HK1.out; omega
              case rel => exact ⟨(x4_1), (wrap64 (x5_1 + 1)), (wrap64 (x6_1 + 1)), (by first | rfl | (simp; done) | (simp [*]; done)), (by first | rfl | (simp; done) | (simp [*]; done)), H', ⟨by have := HK1.out; omega⟩, ⟨by (with_reducible repeat (first | apply Kd.R_alloc | apply Kd.R_drewN | apply Kd.R_drew)); exact Kd.R_mono (Kd.R_far (p := ⟨gb178, 5, none⟩) (Kd.R_far (p := ⟨gb178, 4, none⟩) (Kd.R_far (p := ⟨gb178, 3, none⟩) (Kd.R_far (p := ⟨gb178, 2, none⟩) (Kd.R_far (p := ⟨gb178, 1, none⟩) (Kd.R_far (p := ⟨gb178, 0, none⟩) (Kd.R_types HO_4.out BK178.out (by decide)) (fun _ hk => hk.2) (.int .i64 ((rd_T39 l0 x6_1).f0))) (fun _ hk => hk.2) (.int .i64 ((rd_T39 l0 x6_1).f1))) (fun _ hk => hk.2) (.bool ((rd_T39 l0 x6_1).f2))) (fun _ hk => hk.2) (.int .i64 ((rd_T39 l0 x6_1).f3))) (fun _ hk => hk.2) (.int .i64 ((rd_T39 l0 x6_1).f4))) (fun _ hk => hk.2) (.bool ((rd_T39 l0 x6_1).f5))) (fun _ hk => trivial)⟩, ⟨by repeat (first | (with_reducible first | exact HB.out | apply below_alloc | apply pw_below_drewN | apply below_drew1 | refine below_set ?_ GE178.out) | exact HB.out)⟩⟩
            · rw [if_neg c7] at H
              have c7b0 : (((rd_T39 l0 x6_1).f0) == 3) = false := beq_eq_false_iff_ne.mpr c7
              have c7b1 : (((rd_T39 l0 x6_1).f0) != 3) = true := bne_iff_ne.mpr c7
              by_cases c10 : ((rd_T39 l0 x6_1).f0) = 1
              · rw [if_pos c10] at H
                have c10b0 : (((rd_T39 l0 x6_1).f0) == 1) = true := beq_iff_eq.mpr c10
                have c10b1 : (((rd_T39 l0 x6_1).f0) != 1) = false := bne_eq_false_iff_eq.mpr c10
                clear c10
                by_cases c11 : x4_1.length < 2513169434916
                · rw [if_pos c11] at H
                  have LMc11 := Aside0.mk c11
                  clear c11
                  obtain ⟨y179, hy179⟩ : ∃ y_ : List (S59), y_ = (x4_1 ++ [(⟨(rd_T39 l0 x6_1).f1, (rd_T39 l0 x6_1).f3, (rd_T39 l0 x6_1).f4, (rd_T39 l0 x6_1).f2, (rd_T39 l0 x6_1).f5, x5_1, x6_1, (-1)⟩ : S59)]) := ⟨_, rfl⟩
                  replace H : (tegularef45_Ops.l0 k1 l0 y179 x5_1 (wrap64 (x6_1 + 1))) = some (r1, r2) := by first | (rw [hy179]; with_reducible exact H) | (have H2_ := (Option.bind_some _ _).symm.trans H; rw [hy179]; with_reducible exact H2_) | (have H2_ := (Option.bind_some _ _).symm.trans H; with_reducible exact H2_) | with_reducible exact H | (rw [hy179]; exact H) | exact H
                  have Ny179 := Aside0.mk hy179
                  clear hy179
                  have H' := Aside0.mk H
                  clear H
                  have p177 : 0 ≤ (x6_1 : Int) := of_decide_eq_true (by first | (with_reducible assumption) | assumption)
                  have q177 : x6_1 < (l0.length : Int) := of_decide_eq_true (by first | (with_reducible assumption) | assumption)
                  obtain ⟨ad177, e177, hx177_0, hx177_1, hx177_2, hx177_3, hx177_4, hx177_5⟩ := at_T39 HR0.out x6_1 p177 q177
                  cases e177
                  replace hx177_0 := (HB.out.cell (World.block_lt_of_cell? w _ hx177_0)).trans hx177_0
                  replace hx177_1 := (HB.out.cell (World.block_lt_of_cell? w _ hx177_1)).trans hx177_1
                  replace hx177_2 := (HB.out.cell (World.block_lt_of_cell? w _ hx177_2)).trans hx177_2
                  replace hx177_3 := (HB.out.cell (World.block_lt_of_cell? w _ hx177_3)).trans hx177_3
                  replace hx177_4 := (HB.out.cell (World.block_lt_of_cell? w _ hx177_4)).trans hx177_4
                  replace hx177_5 := (HB.out.cell (World.block_lt_of_cell? w _ hx177_5)).trans hx177_5
                  replace p177 := eq_true p177
                  replace q177 := eq_true q177
                  go_wp2_with (first | ((with_reducible refine gate_dst (N := 7) rfl ?_); refine box_event ?hg (N := 7) ?hd (cs := #[.int .i64 0, .int .i64 0, .bool false, .int .i64 0, .int .i64 0, .bool false]) (t := 39) ?hr ?_; (case hd => rfl); (case hg => rfl); (case hr => first | (go_simp; done) | (go_simp; rfl)); intro gb178 hg w12 hbox hb; have n0_ := Aside0.mk (Kd.R_below (by (with_reducible repeat (first | apply Kd.R_alloc | apply Kd.R_drewN | apply Kd.R_drew)); exact HO_4.out) hb); have n1_ := Aside0.mk (below_step (by repeat (first | (with_reducible first | exact HB.out | apply below_alloc | apply pw_below_drewN | apply below_drew1) | exact HB.out)) hb); have n2_ := Aside0.mk (hbox); have n3_ := Aside0.mk ((by rw [hg]; exact (below_size (by repeat (first | (with_reducible first | exact HB.out | apply below_alloc | apply pw_below_drewN | apply below_drew1) | exact HB.out))) : w.heap.size ≤ gb178)); have n4_ := Aside0.mk ((by rw [hg]; exact (below_size (by repeat (first | (with_reducible first | exact HB.out | apply below_alloc | apply pw_below_drewN | apply below_drew1) | exact HB.out))) : w.heap.size ≤ gb178)); clear HO_4; clear HB; have HO_4 := n0_; have HB := n1_; have BK178 := n2_; have GW178 := n3_; have GE178 := n4_; clear n0_ n1_ n2_ n3_ n4_; clear hb hbox hg; have hcz13_0 : w12.cell? ⟨gb178, 0, none⟩ = some (.int .i64 0) := (blk_cell BK178.out 0).trans rfl; have hcz13_1 : w12.cell? ⟨gb178, 1, none⟩ = some (.int .i64 0) := (blk_cell BK178.out 1).trans rfl; have hcz13_2 : w12.cell? ⟨gb178, 2, none⟩ = some (.bool false) := (blk_cell BK178.out 2).trans rfl; have hcz13_3 : w12.cell? ⟨gb178, 3, none⟩ = some (.int .i64 0) := (blk_cell BK178.out 3).trans rfl; have hcz13_4 : w12.cell? ⟨gb178, 4, none⟩ = some (.int .i64 0) := (blk_cell BK178.out 4).trans rfl; have hcz13_5 : w12.cell? ⟨gb178, 5, none⟩ = some (.bool false) := (blk_cell BK178.out 5).trans rfl; have hfz13_0 := blk_frozen BK178.out 0; have hfz13_1 := blk_frozen BK178.out 1; have hfz13_2 := blk_frozen BK178.out 2; have hfz13_3 := blk_frozen BK178.out 3; have hfz13_4 := blk_frozen BK178.out 4; have hfz13_5 := blk_frozen BK178.out 5) | ((with_reducible refine gate_builtin (b := .append) (xs := #[.tmp 55, .tmp 69]) rfl ?_); at_builtin; refine Kd.R_append k59 (w0 := w) w.heap.size rfl (.tmp 55) (.tmp 69) 55 59 (.agg #[(.int .i64 0), (.int .i64 0), (.int .i64 0), (.bool false), (.bool false), (.int .i64 0), (.int .i64 0), (.int .i64 0)]) 56 rfl Try.underlying55 info59 rfl (by decide) (by omega) u4 x4_1 (⟨(rd_T39 l0 x6_1).f1, (rd_T39 l0 x6_1).f3, (rd_T39 l0 x6_1).f4, (rd_T39 l0 x6_1).f2, (rd_T39 l0 x6_1).f5, x5_1, x6_1, (-1)⟩ : S59) [.int .i64 ((rd_T39 l0 x6_1).f1), .int .i64 ((rd_T39 l0 x6_1).f3), .int .i64 ((rd_T39 l0 x6_1).f4), .bool ((rd_T39 l0 x6_1).f2), .bool ((rd_T39 l0 x6_1).f5), .int .i64 x5_1, .int .i64 x6_1, .int .i64 (-1)] (fun _ => True) (fun _ => False) rfl (by first | (go_simp; done) | (go_simp; rfl)) ?aP (fun _ hk => hk.elim) ?aF ?aO ?aB ?aS ?aL ?_; (case aP => exact k59_mkM _ _ _ (⟨(rd_T39 l0 x6_1).f1, (rd_T39 l0 x6_1).f3, (rd_T39 l0 x6_1).f4, (rd_T39 l0 x6_1).f2, (rd_T39 l0 x6_1).f5, x5_1, x6_1, (-1)⟩ : S59)); (case aB => exact (by repeat (first | (with_reducible first | exact HB.out | apply below_alloc | apply pw_below_drewN | apply below_drew1 | refine below_set ?_ GE178.out) | exact HB.out))); (case aF => exact (fun _ _ => trivial)); (case aO => exact (by (with_reducible repeat (first | apply Kd.R_alloc | apply Kd.R_drewN | apply Kd.R_drew)); exact Kd.R_mono (Kd.R_far (p := ⟨gb178, 5, none⟩) (Kd.R_far (p := ⟨gb178, 4, none⟩) (Kd.R_far (p := ⟨gb178, 3, none⟩) (Kd.R_far (p := ⟨gb178, 2, none⟩) (Kd.R_far (p := ⟨gb178, 1, none⟩) (Kd.R_far (p := ⟨gb178, 0, none⟩) (Kd.R_types HO_4.out BK178.out (by decide)) (fun _ hk => hk.2) (.int .i64 ((rd_T39 l0 x6_1).f0))) (fun _ hk => hk.2) (.int .i64 ((rd_T39 l0 x6_1).f1))) (fun _ hk => hk.2) (.bool ((rd_T39 l0 x6_1).f2))) (fun _ hk => hk.2) (.int .i64 ((rd_T39 l0 x6_1).f3))) (fun _ hk => hk.2) (.int .i64 ((rd_T39 l0 x6_1).f4))) (fun _ hk => hk.2) (.bool ((rd_T39 l0 x6_1).f5))) (fun _ hk => trivial))); (case aS => exact (below_size (by repeat (first | (with_reducible first | exact HB.out | apply below_alloc | apply pw_below_drewN | apply below_drew1 | refine below_set ?_ GE178.out) | exact HB.out)))); (case aL => have := LMc11.out; omega); intro v180 w14 ho hb hg hat; rw [← Ny179.out] at ho; have n0_ := Aside0.mk (blk_grown (g := gb178) (o := .cells #[.int .i64 ((rd_T39 l0 x6_1).f0), .int .i64 ((rd_T39 l0 x6_1).f1), .bool ((rd_T39 l0 x6_1).f2), .int .i64 ((rd_T39 l0 x6_1).f3), .int .i64 ((rd_T39 l0 x6_1).f4), .bool ((rd_T39 l0 x6_1).f5)] 39 (0, 0)) (by (with_reducible repeat (first | refine blk_drewN ?_ _ | refine blk_drew ?_ | refine blk_alloc ?_ _)); refine blk_put (cs := #[.int .i64 ((rd_T39 l0 x6_1).f0), .int .i64 ((rd_T39 l0 x6_1).f1), .bool ((rd_T39 l0 x6_1).f2), .int .i64 ((rd_T39 l0 x6_1).f3), .int .i64 ((rd_T39 l0 x6_1).f4), .bool false]) ?_ 5 _ rfl; (with_reducible repeat (first | refine blk_drewN ?_ _ | refine blk_drew ?_ | refine blk_alloc ?_ _)); refine blk_put (cs := #[.int .i64 ((rd_T39 l0 x6_1).f0), .int .i64 ((rd_T39 l0 x6_1).f1), .bool ((rd_T39 l0 x6_1).f2), .int .i64 ((rd_T39 l0 x6_1).f3), .int .i64 0, .bool false]) ?_ 4 _ rfl; (with_reducible repeat (first | refine blk_drewN ?_ _ | refine blk_drew ?_ | refine blk_alloc ?_ _)); refine blk_put (cs := #[.int .i64 ((rd_T39 l0 x6_1).f0), .int .i64 ((rd_T39 l0 x6_1).f1), .bool ((rd_T39 l0 x6_1).f2), .int .i64 0, .int .i64 0, .bool false]) ?_ 3 _ rfl; (with_reducible repeat (first | refine blk_drewN ?_ _ | refine blk_drew ?_ | refine blk_alloc ?_ _)); refine blk_put (cs := #[.int .i64 ((rd_T39 l0 x6_1).f0), .int .i64 ((rd_T39 l0 x6_1).f1), .bool false, .int .i64 0, .int .i64 0, .bool false]) ?_ 2 _ rfl; (with_reducible repeat (first | refine blk_drewN ?_ _ | refine blk_drew ?_ | refine blk_alloc ?_ _)); refine blk_put (cs := #[.int .i64 ((rd_T39 l0 x6_1).f0), .int .i64 0, .bool false, .int .i64 0, .int .i64 0, .bool false]) ?_ 1 _ rfl; (with_reducible repeat (first | refine blk_drewN ?_ _ | refine blk_drew ?_ | refine blk_alloc ?_ _)); refine blk_put (cs := #[.int .i64 0, .int .i64 0, .bool false, .int .i64 0, .int .i64 0, .bool false]) ?_ 0 _ rfl; (with_reducible repeat (first | refine blk_drewN ?_ _ | refine blk_drew ?_ | refine blk_alloc ?_ _)); exact BK178.out) hg (Kd.R_ne HO_4.out BK178.out (by decide))); have n1_ := Aside0.mk (hb); have n2_ := Aside0.mk (ho); clear BK178; clear HB; clear HO_4; have BK178 := n0_; have HB := n1_; have HO181 := n2_; clear n0_ n1_ n2_; clear ho hb hg hat))
                  repeat (go_quiet (first | ((with_reducible refine gate_dst (N := 7) rfl ?_); refine box_event ?hg (N := 7) ?hd (cs := #[.int .i64 0, .int .i64 0, .bool false, .int .i64 0, .int .i64 0, .bool false]) (t := 39) ?hr ?_; (case hd => rfl); (case hg => rfl); (case hr => first | (go_simp; done) | (go_simp; rfl)); intro gb178 hg w12 hbox hb; have n0_ := Aside0.mk (Kd.R_below (by (with_reducible repeat (first | apply Kd.R_alloc | apply Kd.R_drewN | apply Kd.R_drew)); exact HO_4.out) hb); have n1_ := Aside0.mk (below_step (by repeat (first | (with_reducible first | exact HB.out | apply below_alloc | apply pw_below_drewN | apply below_drew1) | exact HB.out)) hb); have n2_ := Aside0.mk (hbox); have n3_ := Aside0.mk ((by rw [hg]; exact (below_size (by repeat (first | (with_reducible first | exact HB.out | apply below_alloc | apply pw_below_drewN | apply below_drew1) | exact HB.out))) : w.heap.size ≤ gb178)); have n4_ := Aside0.mk ((by rw [hg]; exact (below_size (by repeat (first | (with_reducible first | exact HB.out | apply below_alloc | apply pw_below_drewN | apply below_drew1) | exact HB.out))) : w.heap.size ≤ gb178)); clear HO_4; clear HB; have HO_4 := n0_; have HB := n1_; have BK178 := n2_; have GW178 := n3_; have GE178 := n4_; clear n0_ n1_ n2_ n3_ n4_; clear hb hbox hg; have hcz13_0 : w12.cell? ⟨gb178, 0, none⟩ = some (.int .i64 0) := (blk_cell BK178.out 0).trans rfl; have hcz13_1 : w12.cell? ⟨gb178, 1, none⟩ = some (.int .i64 0) := (blk_cell BK178.out 1).trans rfl; have hcz13_2 : w12.cell? ⟨gb178, 2, none⟩ = some (.bool false) := (blk_cell BK178.out 2).trans rfl; have hcz13_3 : w12.cell? ⟨gb178, 3, none⟩ = some (.int .i64 0) := (blk_cell BK178.out 3).trans rfl; have hcz13_4 : w12.cell? ⟨gb178, 4, none⟩ = some (.int .i64 0) := (blk_cell BK178.out 4).trans rfl; have hcz13_5 : w12.cell? ⟨gb178, 5, none⟩ = some (.bool false) := (blk_cell BK178.out 5).trans rfl; have hfz13_0 := blk_frozen BK178.out 0; have hfz13_1 := blk_frozen BK178.out 1; have hfz13_2 := blk_frozen BK178.out 2; have hfz13_3 := blk_frozen BK178.out 3; have hfz13_4 := blk_frozen BK178.out 4; have hfz13_5 := blk_frozen BK178.out 5) | ((with_reducible refine gate_builtin (b := .append) (xs := #[.tmp 55, .tmp 69]) rfl ?_); at_builtin; refine Kd.R_append k59 (w0 := w) w.heap.size rfl (.tmp 55) (.tmp 69) 55 59 (.agg #[(.int .i64 0), (.int .i64 0), (.int .i64 0), (.bool false), (.bool false), (.int .i64 0), (.int .i64 0), (.int .i64 0)]) 56 rfl Try.underlying55 info59 rfl (by decide) (by omega) u4 x4_1 (⟨(rd_T39 l0 x6_1).f1, (rd_T39 l0 x6_1).f3, (rd_T39 l0 x6_1).f4, (rd_T39 l0 x6_1).f2, (rd_T39 l0 x6_1).f5, x5_1, x6_1, (-1)⟩ : S59) [.int .i64 ((rd_T39 l0 x6_1).f1), .int .i64 ((rd_T39 l0 x6_1).f3), .int .i64 ((rd_T39 l0 x6_1).f4), .bool ((rd_T39 l0 x6_1).f2), .bool ((rd_T39 l0 x6_1).f5), .int .i64 x5_1, .int .i64 x6_1, .int .i64 (-1)] (fun _ => True) (fun _ => False) rfl (by first | (go_simp; done) | (go_simp; rfl)) ?aP (fun _ hk => hk.elim) ?aF ?aO ?aB ?aS ?aL ?_; (case aP => exact k59_mkM _ _ _ (⟨(rd_T39 l0 x6_1).f1, (rd_T39 l0 x6_1).f3, (rd_T39 l0 x6_1).f4, (rd_T39 l0 x6_1).f2, (rd_T39 l0 x6_1).f5, x5_1, x6_1, (-1)⟩ : S59)); (case aB => exact (by repeat (first | (with_reducible first | exact HB.out | apply below_alloc | apply pw_below_drewN | apply below_drew1 | refine below_set ?_ GE178.out) | exact HB.out))); (case aF => exact (fun _ _ => trivial)); (case aO => exact (by (with_reducible repeat (first | apply Kd.R_alloc | apply Kd.R_drewN | apply Kd.R_drew)); exact Kd.R_mono (Kd.R_far (p := ⟨gb178, 5, none⟩) (Kd.R_far (p := ⟨gb178, 4, none⟩) (Kd.R_far (p := ⟨gb178, 3, none⟩) (Kd.R_far (p := ⟨gb178, 2, none⟩) (Kd.R_far (p := ⟨gb178, 1, none⟩) (Kd.R_far (p := ⟨gb178, 0, none⟩) (Kd.R_types HO_4.out BK178.out (by decide)) (fun _ hk => hk.2) (.int .i64 ((rd_T39 l0 x6_1).f0))) (fun _ hk => hk.2) (.int .i64 ((rd_T39 l0 x6_1).f1))) (fun _ hk => hk.2) (.bool ((rd_T39 l0 x6_1).f2))) (fun _ hk => hk.2) (.int .i64 ((rd_T39 l0 x6_1).f3))) (fun _ hk => hk.2) (.int .i64 ((rd_T39 l0 x6_1).f4))) (fun _ hk => hk.2) (.bool ((rd_T39 l0 x6_1).f5))) (fun _ hk => trivial))); (case aS => exact (below_size (by repeat (first | (with_reducible first | exact HB.out | apply below_alloc | apply pw_below_drewN | apply below_drew1 | refine below_set ?_ GE178.out) | exact HB.out)))); (case aL => have := LMc11.out; omega); intro v180 w14 ho hb hg hat; rw [← Ny179.out] at ho; have n0_ := Aside0.mk (blk_grown (g := gb178) (o := .cells #[.int .i64 ((rd_T39 l0 x6_1).f0), .int .i64 ((rd_T39 l0 x6_1).f1), .bool ((rd_T39 l0 x6_1).f2), .int .i64 ((rd_T39 l0 x6_1).f3), .int .i64 ((rd_T39 l0 x6_1).f4), .bool ((rd_T39 l0 x6_1).f5)] 39 (0, 0)) (by (with_reducible repeat (first | refine blk_drewN ?_ _ | refine blk_drew ?_ | refine blk_alloc ?_ _)); refine blk_put (cs := #[.int .i64 ((rd_T39 l0 x6_1).f0), .int .i64 ((rd_T39 l0 x6_1).f1), .bool ((rd_T39 l0 x6_1).f2), .int .i64 ((rd_T39 l0 x6_1).f3), .int .i64 ((rd_T39 l0 x6_1).f4), .bool false]) ?_ 5 _ rfl; (with_reducible repeat (first | refine blk_drewN ?_ _ | refine blk_drew ?_ | refine blk_alloc ?_ _)); refine blk_put (cs := #[.int .i64 ((rd_T39 l0 x6_1).f0), .int .i64 ((rd_T39 l0 x6_1).f1), .bool ((rd_T39 l0 x6_1).f2), .int .i64 ((rd_T39 l0 x6_1).f3), .int .i64 0, .bool false]) ?_ 4 _ rfl; (with_reducible repeat (first | refine blk_drewN ?_ _ | refine blk_drew ?_ | refine blk_alloc ?_ _)); refine blk_put (cs := #[.int .i64 ((rd_T39 l0 x6_1).f0), .int .i64 ((rd_T39 l0 x6_1).f1), .bool ((rd_T39 l0 x6_1).f2), .int .i64 0, .int .i64 0, .bool false]) ?_ 3 _ rfl; (with_reducible repeat (first | refine blk_drewN ?_ _ | refine blk_drew ?_ | refine blk_alloc ?_ _)); refine blk_put (cs := #[.int .i64 ((rd_T39 l0 x6_1).f0), .int .i64 ((rd_T39 l0 x6_1).f1), .bool false, .int .i64 0, .int .i64 0, .bool false]) ?_ 2 _ rfl; (with_reducible repeat (first | refine blk_drewN ?_ _ | refine blk_drew ?_ | refine blk_alloc ?_ _)); refine blk_put (cs := #[.int .i64 ((rd_T39 l0 x6_1).f0), .int .i64 0, .bool false, .int .i64 0, .int .i64 0, .bool false]) ?_ 1 _ rfl; (with_reducible repeat (first | refine blk_drewN ?_ _ | refine blk_drew ?_ | refine blk_alloc ?_ _)); refine blk_put (cs := #[.int .i64 0, .int .i64 0, .bool false, .int .i64 0, .int .i64 0, .bool false]) ?_ 0 _ rfl; (with_reducible repeat (first | refine blk_drewN ?_ _ | refine blk_drew ?_ | refine blk_alloc ?_ _)); exact BK178.out) hg (Kd.R_ne HO_4.out BK178.out (by decide))); have n1_ := Aside0.mk (hb); have n2_ := Aside0.mk (ho); clear BK178; clear HB; clear HO_4; have BK178 := n0_; have HB := n1_; have HO181 := n2_; clear n0_ n1_ n2_; clear ho hb hg hat)); try go_wp2_with (first | ((with_reducible refine gate_dst (N := 7) rfl ?_); refine box_event ?hg (N := 7) ?hd (cs := #[.int .i64 0, .int .i64 0, .bool false, .int .i64 0, .int .i64 0, .bool false]) (t := 39) ?hr ?_; (case hd => rfl); (case hg => rfl); (case hr => first | (go_simp; done) | (go_simp; rfl)); intro gb178 hg w12 hbox hb; have n0_ := Aside0.mk (Kd.R_below (by (with_reducible repeat (first | apply Kd.R_alloc | apply Kd.R_drewN | apply Kd.R_drew)); exact HO_4.out) hb); have n1_ := Aside0.mk (below_step (by repeat (first | (with_reducible first | exact HB.out | apply below_alloc | apply pw_below_drewN | apply below_drew1) | exact HB.out)) hb); have n2_ := Aside0.mk (hbox); have n3_ := Aside0.mk ((by rw [hg]; exact (below_size (by repeat (first | (with_reducible first | exact HB.out | apply below_alloc | apply pw_below_drewN | apply below_drew1) | exact HB.out))) : w.heap.size ≤ gb178)); have n4_ := Aside0.mk ((by rw [hg]; exact (below_size (by repeat (first | (with_reducible first | exact HB.out | apply below_alloc | apply pw_below_drewN | apply below_drew1) | exact HB.out))) : w.heap.size ≤ gb178)); clear HO_4; clear HB; have HO_4 := n0_; have HB := n1_; have BK178 := n2_; have GW178 := n3_; have GE178 := n4_; clear n0_ n1_ n2_ n3_ n4_; clear hb hbox hg; have hcz13_0 : w12.cell? ⟨gb178, 0, none⟩ = some (.int .i64 0) := (blk_cell BK178.out 0).trans rfl; have hcz13_1 : w12.cell? ⟨gb178, 1, none⟩ = some (.int .i64 0) := (blk_cell BK178.out 1).trans rfl; have hcz13_2 : w12.cell? ⟨gb178, 2, none⟩ = some (.bool false) := (blk_cell BK178.out 2).trans rfl; have hcz13_3 : w12.cell? ⟨gb178, 3, none⟩ = some (.int .i64 0) := (blk_cell BK178.out 3).trans rfl; have hcz13_4 : w12.cell? ⟨gb178, 4, none⟩ = some (.int .i64 0) := (blk_cell BK178.out 4).trans rfl; have hcz13_5 : w12.cell? ⟨gb178, 5, none⟩ = some (.bool false) := (blk_cell BK178.out 5).trans rfl; have hfz13_0 := blk_frozen BK178.out 0; have hfz13_1 := blk_frozen BK178.out 1; have hfz13_2 := blk_frozen BK178.out 2; have hfz13_3 := blk_frozen BK178.out 3; have hfz13_4 := blk_frozen BK178.out 4; have hfz13_5 := blk_frozen BK178.out 5) | ((with_reducible refine gate_builtin (b := .append) (xs := #[.tmp 55, .tmp 69]) rfl ?_); at_builtin; refine Kd.R_append k59 (w0 := w) w.heap.size rfl (.tmp 55) (.tmp 69) 55 59 (.agg #[(.int .i64 0), (.int .i64 0), (.int .i64 0), (.bool false), (.bool false), (.int .i64 0), (.int .i64 0), (.int .i64 0)]) 56 rfl Try.underlying55 info59 rfl (by decide) (by omega) u4 x4_1 (⟨(rd_T39 l0 x6_1).f1, (rd_T39 l0 x6_1).f3, (rd_T39 l0 x6_1).f4, (rd_T39 l0 x6_1).f2, (rd_T39 l0 x6_1).f5, x5_1, x6_1, (-1)⟩ : S59) [.int .i64 ((rd_T39 l0 x6_1).f1), .int .i64 ((rd_T39 l0 x6_1).f3), .int .i64 ((rd_T39 l0 x6_1).f4), .bool ((rd_T39 l0 x6_1).f2), .bool ((rd_T39 l0 x6_1).f5), .int .i64 x5_1, .int .i64 x6_1, .int .i64 (-1)] (fun _ => True) (fun _ => False) rfl (by first | (go_simp; done) | (go_simp; rfl)) ?aP (fun _ hk => hk.elim) ?aF ?aO ?aB ?aS ?aL ?_; (case aP => exact k59_mkM _ _ _ (⟨(rd_T39 l0 x6_1).f1, (rd_T39 l0 x6_1).f3, (rd_T39 l0 x6_1).f4, (rd_T39 l0 x6_1).f2, (rd_T39 l0 x6_1).f5, x5_1, x6_1, (-1)⟩ : S59)); (case aB => exact (by repeat (first | (with_reducible first | exact HB.out | apply below_alloc | apply pw_below_drewN | apply below_drew1 | refine below_set ?_ GE178.out) | exact HB.out))); (case aF => exact (fun _ _ => trivial)); (case aO => exact (by (with_reducible repeat (first | apply Kd.R_alloc | apply Kd.R_drewN | apply Kd.R_drew)); exact Kd.R_mono (Kd.R_far (p := ⟨gb178, 5, none⟩) (Kd.R_far (p := ⟨gb178, 4, none⟩) (Kd.R_far (p := ⟨gb178, 3, none⟩) (Kd.R_far (p := ⟨gb178, 2, none⟩) (Kd.R_far (p := ⟨gb178, 1, none⟩) (Kd.R_far (p := ⟨gb178, 0, none⟩) (Kd.R_types HO_4.out BK178.out (by decide)) (fun _ hk => hk.2) (.int .i64 ((rd_T39 l0 x6_1).f0))) (fun _ hk => hk.2) (.int .i64 ((rd_T39 l0 x6_1).f1))) (fun _ hk => hk.2) (.bool ((rd_T39 l0 x6_1).f2))) (fun _ hk => hk.2) (.int .i64 ((rd_T39 l0 x6_1).f3))) (fun _ hk => hk.2) (.int .i64 ((rd_T39 l0 x6_1).f4))) (fun _ hk => hk.2) (.bool ((rd_T39 l0 x6_1).f5))) (fun _ hk => trivial))); (case aS => exact (below_size (by repeat (first | (with_reducible first | exact HB.out | apply below_alloc | apply pw_below_drewN | apply below_drew1 | refine below_set ?_ GE178.out) | exact HB.out)))); (case aL => have := LMc11.out; omega); intro v180 w14 ho hb hg hat; rw [← Ny179.out] at ho; have n0_ := Aside0.mk (blk_grown (g := gb178) (o := .cells #[.int .i64 ((rd_T39 l0 x6_1).f0), .int .i64 ((rd_T39 l0 x6_1).f1), .bool ((rd_T39 l0 x6_1).f2), .int .i64 ((rd_T39 l0 x6_1).f3), .int .i64 ((rd_T39 l0 x6_1).f4), .bool ((rd_T39 l0 x6_1).f5)] 39 (0, 0)) (by (with_reducible repeat (first | refine blk_drewN ?_ _ | refine blk_drew ?_ | refine blk_alloc ?_ _)); refine blk_put (cs := #[.int .i64 ((rd_T39 l0 x6_1).f0), .int .i64 ((rd_T39 l0 x6_1).f1), .bool ((rd_T39 l0 x6_1).f2), .int .i64 ((rd_T39 l0 x6_1).f3), .int .i64 ((rd_T39 l0 x6_1).f4), .bool false]) ?_ 5 _ rfl; (with_reducible repeat (first | refine blk_drewN ?_ _ | refine blk_drew ?_ | refine blk_alloc ?_ _)); refine blk_put (cs := #[.int .i64 ((rd_T39 l0 x6_1).f0), .int .i64 ((rd_T39 l0 x6_1).f1), .bool ((rd_T39 l0 x6_1).f2), .int .i64 ((rd_T39 l0 x6_1).f3), .int .i64 0, .bool false]) ?_ 4 _ rfl; (with_reducible repeat (first | refine blk_drewN ?_ _ | refine blk_drew ?_ | refine blk_alloc ?_ _)); refine blk_put (cs := #[.int .i64 ((rd_T39 l0 x6_1).f0), .int .i64 ((rd_T39 l0 x6_1).f1), .bool ((rd_T39 l0 x6_1).f2), .int .i64 0, .int .i64 0, .bool false]) ?_ 3 _ rfl; (with_reducible repeat (first | refine blk_drewN ?_ _ | refine blk_drew ?_ | refine blk_alloc ?_ _)); refine blk_put (cs := #[.int .i64 ((rd_T39 l0 x6_1).f0), .int .i64 ((rd_T39 l0 x6_1).f1), .bool false, .int .i64 0, .int .i64 0, .bool false]) ?_ 2 _ rfl; (with_reducible repeat (first | refine blk_drewN ?_ _ | refine blk_drew ?_ | refine blk_alloc ?_ _)); refine blk_put (cs := #[.int .i64 ((rd_T39 l0 x6_1).f0), .int .i64 0, .bool false, .int .i64 0, .int .i64 0, .bool false]) ?_ 1 _ rfl; (with_reducible repeat (first | refine blk_drewN ?_ _ | refine blk_drew ?_ | refine blk_alloc ?_ _)); refine blk_put (cs := #[.int .i64 0, .int .i64 0, .bool false, .int .i64 0, .int .i64 0, .bool false]) ?_ 0 _ rfl; (with_reducible repeat (first | refine blk_drewN ?_ _ | refine blk_drew ?_ | refine blk_alloc ?_ _)); exact BK178.out) hg (Kd.R_ne HO_4.out BK178.out (by decide))); have n1_ := Aside0.mk (hb); have n2_ := Aside0.mk (ho); clear BK178; clear HB; clear HO_4; have BK178 := n0_; have HB := n1_; have HO181 := n2_; clear n0_ n1_ n2_; clear ho hb hg hat)))
                  go_roundg k1
                  case measure => have := HK1.out; omega
                  case rel => exact ⟨(y179), (x5_1), (wrap64 (x6_1 + 1)), (by first | rfl | (simp; done) | (simp [*]; done)), (by first | rfl | (simp; done) | (simp [*]; done)), H', ⟨by have := HK1.out; omega⟩, ⟨by (with_reducible repeat (first | apply Kd.R_alloc | apply Kd.R_drewN | apply Kd.R_drew)); exact HO181.out⟩, ⟨by repeat (first | (with_reducible first | exact HB.out | apply below_alloc | apply pw_below_drewN | apply below_drew1 | refine below_set ?_ GE178.out) | exact HB.out)⟩⟩
                · rw [if_neg c11] at H
                  exact absurd H (by simp)
              · rw [if_neg c10] at H
                have c10b0 : (((rd_T39 l0 x6_1).f0) == 1) = false := beq_eq_false_iff_ne.mpr c10
                have c10b1 : (((rd_T39 l0 x6_1).f0) != 1) = true := bne_iff_ne.mpr c10
                have H' := Aside0.mk H
                clear H
                have p177 : 0 ≤ (x6_1 : Int) := of_decide_eq_true (by first | (with_reducible assumption) | assumption)
                have q177 : x6_1 < (l0.length : Int) := of_decide_eq_true (by first | (with_reducible assumption) | assumption)
                obtain ⟨ad177, e177, hx177_0, hx177_1, hx177_2, hx177_3, hx177_4, hx177_5⟩ := at_T39 HR0.out x6_1 p177 q177
                cases e177
                replace hx177_0 := (HB.out.cell (World.block_lt_of_cell? w _ hx177_0)).trans hx177_0
                replace hx177_1 := (HB.out.cell (World.block_lt_of_cell? w _ hx177_1)).trans hx177_1
                replace hx177_2 := (HB.out.cell (World.block_lt_of_cell? w _ hx177_2)).trans hx177_2
                replace hx177_3 := (HB.out.cell (World.block_lt_of_cell? w _ hx177_3)).trans hx177_3
                replace hx177_4 := (HB.out.cell (World.block_lt_of_cell? w _ hx177_4)).trans hx177_4
                replace hx177_5 := (HB.out.cell (World.block_lt_of_cell? w _ hx177_5)).trans hx177_5
                replace p177 := eq_true p177
                replace q177 := eq_true q177
                go_wp2_with (first | ((with_reducible refine gate_dst (N := 7) rfl ?_); refine box_event ?hg (N := 7) ?hd (cs := #[.int .i64 0, .int .i64 0, .bool false, .int .i64 0, .int .i64 0, .bool false]) (t := 39) ?hr ?_; (case hd => rfl); (case hg => rfl); (case hr => first | (go_simp; done) | (go_simp; rfl)); intro gb178 hg w15 hbox hb; have n0_ := Aside0.mk (Kd.R_below (by (with_reducible repeat (first | apply Kd.R_alloc | apply Kd.R_drewN | apply Kd.R_drew)); exact HO_4.out) hb); have n1_ := Aside0.mk (below_step (by repeat (first | (with_reducible first | exact HB.out | apply below_alloc | apply pw_below_drewN | apply below_drew1) | exact HB.out)) hb); have n2_ := Aside0.mk (hbox); have n3_ := Aside0.mk ((by rw [hg]; exact (below_size (by repeat (first | (with_reducible first | exact HB.out | apply below_alloc | apply pw_below_drewN | apply below_drew1) | exact HB.out))) : w.heap.size ≤ gb178)); have n4_ := Aside0.mk ((by rw [hg]; exact (below_size (by repeat (first | (with_reducible first | exact HB.out | apply below_alloc | apply pw_below_drewN | apply below_drew1) | exact HB.out))) : w.heap.size ≤ gb178)); clear HO_4; clear HB; have HO_4 := n0_; have HB := n1_; have BK178 := n2_; have GW178 := n3_; have GE178 := n4_; clear n0_ n1_ n2_ n3_ n4_; clear hb hbox hg; have hcz16_0 : w15.cell? ⟨gb178, 0, none⟩ = some (.int .i64 0) := (blk_cell BK178.out 0).trans rfl; have hcz16_1 : w15.cell? ⟨gb178, 1, none⟩ = some (.int .i64 0) := (blk_cell BK178.out 1).trans rfl; have hcz16_2 : w15.cell? ⟨gb178, 2, none⟩ = some (.bool false) := (blk_cell BK178.out 2).trans rfl; have hcz16_3 : w15.cell? ⟨gb178, 3, none⟩ = some (.int .i64 0) := (blk_cell BK178.out 3).trans rfl; have hcz16_4 : w15.cell? ⟨gb178, 4, none⟩ = some (.int .i64 0) := (blk_cell BK178.out 4).trans rfl; have hcz16_5 : w15.cell? ⟨gb178, 5, none⟩ = some (.bool false) := (blk_cell BK178.out 5).trans rfl; have hfz16_0 := blk_frozen BK178.out 0; have hfz16_1 := blk_frozen BK178.out 1; have hfz16_2 := blk_frozen BK178.out 2; have hfz16_3 := blk_frozen BK178.out 3; have hfz16_4 := blk_frozen BK178.out 4; have hfz16_5 := blk_frozen BK178.out 5))
                repeat (go_quiet (first | ((with_reducible refine gate_dst (N := 7) rfl ?_); refine box_event ?hg (N := 7) ?hd (cs := #[.int .i64 0, .int .i64 0, .bool false, .int .i64 0, .int .i64 0, .bool false]) (t := 39) ?hr ?_; (case hd => rfl); (case hg => rfl); (case hr => first | (go_simp; done) | (go_simp; rfl)); intro gb178 hg w15 hbox hb; have n0_ := Aside0.mk (Kd.R_below (by (with_reducible repeat (first | apply Kd.R_alloc | apply Kd.R_drewN | apply Kd.R_drew)); exact HO_4.out) hb); have n1_ := Aside0.mk (below_step (by repeat (first | (with_reducible first | exact HB.out | apply below_alloc | apply pw_below_drewN | apply below_drew1) | exact HB.out)) hb); have n2_ := Aside0.mk (hbox); have n3_ := Aside0.mk ((by rw [hg]; exact (below_size (by repeat (first | (with_reducible first | exact HB.out | apply below_alloc | apply pw_below_drewN | apply below_drew1) | exact HB.out))) : w.heap.size ≤ gb178)); have n4_ := Aside0.mk ((by rw [hg]; exact (below_size (by repeat (first | (with_reducible first | exact HB.out | apply below_alloc | apply pw_below_drewN | apply below_drew1) | exact HB.out))) : w.heap.size ≤ gb178)); clear HO_4; clear HB; have HO_4 := n0_; have HB := n1_; have BK178 := n2_; have GW178 := n3_; have GE178 := n4_; clear n0_ n1_ n2_ n3_ n4_; clear hb hbox hg; have hcz16_0 : w15.cell? ⟨gb178, 0, none⟩ = some (.int .i64 0) := (blk_cell BK178.out 0).trans rfl; have hcz16_1 : w15.cell? ⟨gb178, 1, none⟩ = some (.int .i64 0) := (blk_cell BK178.out 1).trans rfl; have hcz16_2 : w15.cell? ⟨gb178, 2, none⟩ = some (.bool false) := (blk_cell BK178.out 2).trans rfl; have hcz16_3 : w15.cell? ⟨gb178, 3, none⟩ = some (.int .i64 0) := (blk_cell BK178.out 3).trans rfl; have hcz16_4 : w15.cell? ⟨gb178, 4, none⟩ = some (.int .i64 0) := (blk_cell BK178.out 4).trans rfl; have hcz16_5 : w15.cell? ⟨gb178, 5, none⟩ = some (.bool false) := (blk_cell BK178.out 5).trans rfl; have hfz16_0 := blk_frozen BK178.out 0; have hfz16_1 := blk_frozen BK178.out 1; have hfz16_2 := blk_frozen BK178.out 2; have hfz16_3 := blk_frozen BK178.out 3; have hfz16_4 := blk_frozen BK178.out 4; have hfz16_5 := blk_frozen BK178.out 5)); try go_wp2_with (first | ((with_reducible refine gate_dst (N := 7) rfl ?_); refine box_event ?hg (N := 7) ?hd (cs := #[.int .i64 0, .int .i64 0, .bool false, .int .i64 0, .int .i64 0, .bool false]) (t := 39) ?hr ?_; (case hd => rfl); (case hg => rfl); (case hr => first | (go_simp; done) | (go_simp; rfl)); intro gb178 hg w15 hbox hb; have n0_ := Aside0.mk (Kd.R_below (by (with_reducible repeat (first | apply Kd.R_alloc | apply Kd.R_drewN | apply Kd.R_drew)); exact HO_4.out) hb); have n1_ := Aside0.mk (below_step (by repeat (first | (with_reducible first | exact HB.out | apply below_alloc | apply pw_below_drewN | apply below_drew1) | exact HB.out)) hb); have n2_ := Aside0.mk (hbox); have n3_ := Aside0.mk ((by rw [hg]; exact (below_size (by repeat (first | (with_reducible first | exact HB.out | apply below_alloc | apply pw_below_drewN | apply below_drew1) | exact HB.out))) : w.heap.size ≤ gb178)); have n4_ := Aside0.mk ((by rw [hg]; exact (below_size (by repeat (first | (with_reducible first | exact HB.out | apply below_alloc | apply pw_below_drewN | apply below_drew1) | exact HB.out))) : w.heap.size ≤ gb178)); clear HO_4; clear HB; have HO_4 := n0_; have HB := n1_; have BK178 := n2_; have GW178 := n3_; have GE178 := n4_; clear n0_ n1_ n2_ n3_ n4_; clear hb hbox hg; have hcz16_0 : w15.cell? ⟨gb178, 0, none⟩ = some (.int .i64 0) := (blk_cell BK178.out 0).trans rfl; have hcz16_1 : w15.cell? ⟨gb178, 1, none⟩ = some (.int .i64 0) := (blk_cell BK178.out 1).trans rfl; have hcz16_2 : w15.cell? ⟨gb178, 2, none⟩ = some (.bool false) := (blk_cell BK178.out 2).trans rfl; have hcz16_3 : w15.cell? ⟨gb178, 3, none⟩ = some (.int .i64 0) := (blk_cell BK178.out 3).trans rfl; have hcz16_4 : w15.cell? ⟨gb178, 4, none⟩ = some (.int .i64 0) := (blk_cell BK178.out 4).trans rfl; have hcz16_5 : w15.cell? ⟨gb178, 5, none⟩ = some (.bool false) := (blk_cell BK178.out 5).trans rfl; have hfz16_0 := blk_frozen BK178.out 0; have hfz16_1 := blk_frozen BK178.out 1; have hfz16_2 := blk_frozen BK178.out 2; have hfz16_3 := blk_frozen BK178.out 3; have hfz16_4 := blk_frozen BK178.out 4; have hfz16_5 := blk_frozen BK178.out 5)))
                go_loopg [8] k1 (fun kq v8 w' => ∃ (x4_2 : List (S59)) (x8_2 : Int), v8 = .int .i64 x8_2 ∧ Aside0 (tegularef45_Ops.l1 kq l0 x4_2 x5_1 x6_1 x8_2 ((rd_T39 l0 x6_1).f0) ((rd_T39 l0 x6_1).f1) ((rd_T39 l0 x6_1).f2) ((rd_T39 l0 x6_1).f3) ((rd_T39 l0 x6_1).f4) ((rd_T39 l0 x6_1).f5) = some (r1, r2)) ∧ Aside0 (kq ≤ k1) ∧ Aside0 (Kd.R k59 59 w' w.heap.size (fun _ => True) u4 x4_2) ∧ Aside0 (w'.heap[gb178]? = some (.cells #[.int .i64 ((rd_T39 l0 x6_1).f0), .int .i64 ((rd_T39 l0 x6_1).f1), .bool ((rd_T39 l0 x6_1).f2), .int .i64 ((rd_T39 l0 x6_1).f3), .int .i64 ((rd_T39 l0 x6_1).f4), .bool ((rd_T39 l0 x6_1).f5)] 39 (0, 0))) ∧ Aside0 (Below w.heap.size w w'))
                case atStart => exact ⟨(x4_1), (0), (by first | rfl | (simp; done) | (simp [*]; done)), H', ⟨Nat.le_refl _⟩, ⟨by (with_reducible repeat (first | apply Kd.R_alloc | apply Kd.R_drewN | apply Kd.R_drew)); exact Kd.R_mono (Kd.R_far (p := ⟨gb178, 5, none⟩) (Kd.R_far (p := ⟨gb178, 4, none⟩) (Kd.R_far (p := ⟨gb178, 3, none⟩) (Kd.R_far (p := ⟨gb178, 2, none⟩) (Kd.R_far (p := ⟨gb178, 1, none⟩) (Kd.R_far (p := ⟨gb178, 0, none⟩) (Kd.R_types HO_4.out BK178.out (by decide)) (fun _ hk => hk.2) (.int .i64 ((rd_T39 l0 x6_1).f0))) (fun _ hk => hk.2) (.int .i64 ((rd_T39 l0 x6_1).f1))) (fun _ hk => hk.2) (.bool ((rd_T39 l0 x6_1).f2))) (fun _ hk => hk.2) (.int .i64 ((rd_T39 l0 x6_1).f3))) (fun _ hk => hk.2) (.int .i64 ((rd_T39 l0 x6_1).f4))) (fun _ hk => hk.2) (.bool ((rd_T39 l0 x6_1).f5))) (fun _ hk => trivial)⟩, ⟨by (with_reducible repeat (first | refine blk_drewN ?_ _ | refine blk_drew ?_ | refine blk_alloc ?_ _)); refine blk_put (cs := #[.int .i64 ((rd_T39 l0 x6_1).f0), .int .i64 ((rd_T39 l0 x6_1).f1), .bool ((rd_T39 l0 x6_1).f2), .int .i64 ((rd_T39 l0 x6_1).f3), .int .i64 ((rd_T39 l0 x6_1).f4), .bool false]) ?_ 5 _ rfl; (with_reducible repeat (first | refine blk_drewN ?_ _ | refine blk_drew ?_ | refine blk_alloc ?_ _)); refine blk_put (cs := #[.int .i64 ((rd_T39 l0 x6_1).f0), .int .i64 ((rd_T39 l0 x6_1).f1), .bool ((rd_T39 l0 x6_1).f2), .int .i64 ((rd_T39 l0 x6_1).f3), .int .i64 0, .bool false]) ?_ 4 _ rfl; (with_reducible repeat (first | refine blk_drewN ?_ _ | refine blk_drew ?_ | refine blk_alloc ?_ _)); refine blk_put (cs := #[.int .i64 ((rd_T39 l0 x6_1).f0), .int .i64 ((rd_T39 l0 x6_1).f1), .bool ((rd_T39 l0 x6_1).f2), .int .i64 0, .int .i64 0, .bool false]) ?_ 3 _ rfl; (with_reducible repeat (first | refine blk_drewN ?_ _ | refine blk_drew ?_ | refine blk_alloc ?_ _)); refine blk_put (cs := #[.int .i64 ((rd_T39 l0 x6_1).f0), .int .i64 ((rd_T39 l0 x6_1).f1), .bool false, .int .i64 0, .int .i64 0, .bool false]) ?_ 2 _ rfl; (with_reducible repeat (first | refine blk_drewN ?_ _ | refine blk_drew ?_ | refine blk_alloc ?_ _)); refine blk_put (cs := #[.int .i64 ((rd_T39 l0 x6_1).f0), .int .i64 0, .bool false, .int .i64 0, .int .i64 0, .bool false]) ?_ 1 _ rfl; (with_reducible repeat (first | refine blk_drewN ?_ _ | refine blk_drew ?_ | refine blk_alloc ?_ _)); refine blk_put (cs := #[.int .i64 0, .int .i64 0, .bool false, .int .i64 0, .int .i64 0, .bool false]) ?_ 0 _ rfl; (with_reducible repeat (first | refine blk_drewN ?_ _ | refine blk_drew ?_ | refine blk_alloc ?_ _)); exact BK178.out⟩, ⟨by repeat (first | (with_reducible first | exact HB.out | apply below_alloc | apply pw_below_drewN | apply below_drew1 | refine below_set ?_ GE178.out) | exact HB.out)⟩⟩
                case round =>
                  clear H'
                  try clear c1
                  try clear p1
                  try clear q1
                  try clear hx1
                  try clear p2
                  try clear c3
                  try clear c5
                  try clear c5b0
                  try clear c6
                  try clear c6b0
                  try clear p6
                  try clear c7
                  try clear c7b0
                  try clear c7b1
                  try clear c10
                  try clear c10b0
                  try clear c10b1
                  try clear c11
                  try clear hcz13_0
                  try clear hcz13_1
                  try clear hcz13_2
                  try clear hcz13_3
                  try clear hcz13_4
                  try clear hcz13_5
                  try clear hcz16_0
                  try clear hcz16_1
                  try clear hcz16_2
                  try clear hcz16_3
                  try clear hcz16_4
                  try clear hcz16_5
                  try clear hcz9_0
                  try clear hcz9_1
                  try clear hcz9_2
                  try clear hcz9_3
                  try clear hcz9_4
                  try clear hcz9_5
                  try clear hfz13_0
                  try clear hfz13_1
                  try clear hfz13_2
                  try clear hfz13_3
                  try clear hfz13_4
                  try clear hfz13_5
                  try clear hfz16_0
                  try clear hfz16_1
                  try clear hfz16_2
                  try clear hfz16_3
                  try clear hfz16_4
                  try clear hfz16_5
                  try clear hfz9_0
                  try clear hfz9_1
                  try clear hfz9_2
                  try clear hfz9_3
                  try clear hfz9_4
                  try clear hfz9_5
                  try clear hx177_0
                  try clear hx177_1
                  try clear hx177_2
                  try clear hx177_3
                  try clear hx177_4
                  try clear hx177_5
                  try clear p177
                  try clear p2
                  try clear q177
                  obtain ⟨x4_2, x8_2, rfl, HA, HK2, HO_4, BK178, HB⟩ := hrel
                  cases gk with
                  | zero => exact absurd HA.out (by simp [tegularef45_Ops.l1])
                  | succ k2 =>
                    have H := HA.out
                    clear HA
                    simp only [tegularef45_Ops.l1] at H
                    by_cases c17 : x8_2 < (x4_2.length : Int)
                    · rw [if_pos c17] at H
                      have c17b0 : decide (x8_2 < (x4_2.length : Int)) = true := decide_eq_true c17
                      clear c17
                      by_cases c18 : 0 ≤ x8_2
                      · rw [if_pos c18] at H
                        have c18b0 : decide (0 ≤ x8_2) = true := decide_eq_true c18
                        clear c18
                        by_cases c19 : ((rd_T59 x4_2 x8_2).f0) = ((rd_T39 l0 x6_1).f1)
                        · rw [if_pos c19] at H
                          have c19b0 : (((rd_T59 x4_2 x8_2).f0) == ((rd_T39 l0 x6_1).f1)) = true := beq_iff_eq.mpr c19
                          have c19b1 : (((rd_T59 x4_2 x8_2).f0) != ((rd_T39 l0 x6_1).f1)) = false := bne_eq_false_iff_eq.mpr c19
                          clear c19
                          obtain ⟨y183, hy183⟩ : ∃ y_ : List (S59), y_ = (x4_2.set (x8_2 : Int).toNat (⟨(rd_T59 x4_2 x8_2).f0, (rd_T59 x4_2 x8_2).f1, ((rd_T39 l0 x6_1).f4), (rd_T59 x4_2 x8_2).f3, (rd_T59 x4_2 x8_2).f4, (rd_T59 x4_2 x8_2).f5, (rd_T59 x4_2 x8_2).f6, (rd_T59 x4_2 x8_2).f7⟩ : S59)) := ⟨_, rfl⟩
                          replace H : (tegularef45_Ops.l1 k2 l0 (y183.set (x8_2 : Int).toNat (⟨(rd_T59 y183 x8_2).f0, (rd_T59 y183 x8_2).f1, (rd_T59 y183 x8_2).f2, (rd_T59 y183 x8_2).f3, (rd_T59 y183 x8_2).f4, (rd_T59 y183 x8_2).f5, (rd_T59 y183 x8_2).f6, x6_1⟩ : S59)) x5_1 x6_1 (wrap64 (x8_2 + 1)) ((rd_T39 l0 x6_1).f0) ((rd_T39 l0 x6_1).f1) ((rd_T39 l0 x6_1).f2) ((rd_T39 l0 x6_1).f3) ((rd_T39 l0 x6_1).f4) ((rd_T39 l0 x6_1).f5)) = some (r1, r2) := by first | (rw [hy183]; with_reducible exact H) | (have H2_ := (Option.bind_some _ _).symm.trans H; rw [hy183]; with_reducible exact H2_) | (have H2_ := (Option.bind_some _ _).symm.trans H; with_reducible exact H2_) | with_reducible exact H | (rw [hy183]; exact H) | exact H
                          have Ny183 := Aside0.mk hy183
                          clear hy183
                          obtain ⟨y184, hy184⟩ : ∃ y_ : List (S59), y_ = (y183.set (x8_2 : Int).toNat (⟨(rd_T59 y183 x8_2).f0, (rd_T59 y183 x8_2).f1, (rd_T59 y183 x8_2).f2, (rd_T59 y183 x8_2).f3, (rd_T59 y183 x8_2).f4, (rd_T59 y183 x8_2).f5, (rd_T59 y183 x8_2).f6, x6_1⟩ : S59)) := ⟨_, rfl⟩
                          replace H : (tegularef45_Ops.l1 k2 l0 y184 x5_1 x6_1 (wrap64 (x8_2 + 1)) ((rd_T39 l0 x6_1).f0) ((rd_T39 l0 x6_1).f1) ((rd_T39 l0 x6_1).f2) ((rd_T39 l0 x6_1).f3) ((rd_T39 l0 x6_1).f4) ((rd_T39 l0 x6_1).f5)) = some (r1, r2) := by first | (rw [hy184]; with_reducible exact H) | (have H2_ := (Option.bind_some _ _).symm.trans H; rw [hy184]; with_reducible exact H2_) | (have H2_ := (Option.bind_some _ _).symm.trans H; with_reducible exact H2_) | with_reducible exact H | (rw [hy184]; exact H) | exact H
                          have Ny184 := Aside0.mk hy184
                          clear hy184
                          have H' := Aside0.mk H
                          clear H
                          obtain ⟨Ao22, co22, eo22⟩ := Kd.R_slice HO_4.out
                          subst eo22
                          have p182 : 0 ≤ (x8_2 : Int) := of_decide_eq_true (by first | (with_reducible assumption) | assumption)
                          have q182 : x8_2 < (x4_2.length : Int) := of_decide_eq_true (by first | (with_reducible assumption) | assumption)
                          obtain ⟨ad182, e182, hx182_0, hx182_1, hx182_2, hx182_3, hx182_4, hx182_5, hx182_6, hx182_7⟩ := at_T59 (Kd.R_reads' HO_4.out).2.2 x8_2 p182 q182
                          cases e182
                          replace p182 := eq_true p182
                          replace q182 := eq_true q182
                          have hcz23_0 : wr.cell? ⟨gb178, 0, none⟩ = some (.int .i64 ((rd_T39 l0 x6_1).f0)) := (blk_cell BK178.out 0).trans rfl
                          have hcz23_1 : wr.cell? ⟨gb178, 1, none⟩ = some (.int .i64 ((rd_T39 l0 x6_1).f1)) := (blk_cell BK178.out 1).trans rfl
                          have hcz23_2 : wr.cell? ⟨gb178, 2, none⟩ = some (.bool ((rd_T39 l0 x6_1).f2)) := (blk_cell BK178.out 2).trans rfl
                          have hcz23_3 : wr.cell? ⟨gb178, 3, none⟩ = some (.int .i64 ((rd_T39 l0 x6_1).f3)) := (blk_cell BK178.out 3).trans rfl
                          have hcz23_4 : wr.cell? ⟨gb178, 4, none⟩ = some (.int .i64 ((rd_T39 l0 x6_1).f4)) := (blk_cell BK178.out 4).trans rfl
                          have hcz23_5 : wr.cell? ⟨gb178, 5, none⟩ = some (.bool ((rd_T39 l0 x6_1).f5)) := (blk_cell BK178.out 5).trans rfl
                          have hfz23_0 := blk_frozen BK178.out 0
                          have hfz23_1 := blk_frozen BK178.out 1
                          have hfz23_2 := blk_frozen BK178.out 2
                          have hfz23_3 := blk_frozen BK178.out 3
                          have hfz23_4 := blk_frozen BK178.out 4
                          have hfz23_5 := blk_frozen BK178.out 5
                          have p20 : 0 ≤ (x8_2 : Int) := of_decide_eq_true (by first | (with_reducible assumption) | assumption)
                          have q20 : (x8_2 : Int) < ((x4_2.length : Int) : Int) := of_decide_eq_true (by first | (with_reducible assumption) | assumption)
                          obtain ⟨go20, co20, eo20, gb20, gl20, cl20, HG20⟩ := Kd.R_form HO_4.out (by omega)
                          (first | cases eo20 | (injection eo20 with ea_ en_ ec_; (first | subst ea_ | (injection ea_ with ea_; subst ea_)); subst ec_; clear en_))
                          have GB20 := Aside0.mk gb20
                          have GG20 := Aside0.mk HG20
                          clear gb20 gl20 HG20
                          (first | simp only [add_plain] at hx182_0 | skip)
                          (first | simp only [add_plain] at hx182_1 | skip)
                          (first | simp only [add_plain] at hx182_2 | skip)
                          (first | simp only [add_plain] at hx182_3 | skip)
                          (first | simp only [add_plain] at hx182_4 | skip)
                          (first | simp only [add_plain] at hx182_5 | skip)
                          (first | simp only [add_plain] at hx182_6 | skip)
                          (first | simp only [add_plain] at hx182_7 | skip)
                          obtain ⟨ce20, hcl20, hM20, hcc20, hfr20⟩ := Kd.R_elem HO_4.out z59 (x8_2 : Int) p20 q20
                          obtain rfl := k59_openM hM20
                          have hx20_0 : wr.cell? ⟨go20, (x8_2 : Int).toNat * 8, none⟩ = some (.int .i64 ((rd_T59 x4_2 x8_2).f0)) := hcc20 0 _ rfl
                          have hx20_1 : wr.cell? ⟨go20, (x8_2 : Int).toNat * 8 + 1, none⟩ = some (.int .i64 ((rd_T59 x4_2 x8_2).f1)) := hcc20 1 _ rfl
                          have hx20_2 : wr.cell? ⟨go20, (x8_2 : Int).toNat * 8 + 2, none⟩ = some (.int .i64 ((rd_T59 x4_2 x8_2).f2)) := hcc20 2 _ rfl
                          have hx20_3 : wr.cell? ⟨go20, (x8_2 : Int).toNat * 8 + 3, none⟩ = some (.bool ((rd_T59 x4_2 x8_2).f3)) := hcc20 3 _ rfl
                          have hx20_4 : wr.cell? ⟨go20, (x8_2 : Int).toNat * 8 + 4, none⟩ = some (.bool ((rd_T59 x4_2 x8_2).f4)) := hcc20 4 _ rfl
                          have hx20_5 : wr.cell? ⟨go20, (x8_2 : Int).toNat * 8 + 5, none⟩ = some (.int .i64 ((rd_T59 x4_2 x8_2).f5)) := hcc20 5 _ rfl
                          have hx20_6 : wr.cell? ⟨go20, (x8_2 : Int).toNat * 8 + 6, none⟩ = some (.int .i64 ((rd_T59 x4_2 x8_2).f6)) := hcc20 6 _ rfl
                          have hx20_7 : wr.cell? ⟨go20, (x8_2 : Int).toNat * 8 + 7, none⟩ = some (.int .i64 ((rd_T59 x4_2 x8_2).f7)) := hcc20 7 _ rfl
                          have hf20_0 : wr.frozen? ⟨go20, (x8_2 : Int).toNat * 8, none⟩ = false := hfr20 0
                          have hf20_1 : wr.frozen? ⟨go20, (x8_2 : Int).toNat * 8 + 1, none⟩ = false := hfr20 1
                          have hf20_2 : wr.frozen? ⟨go20, (x8_2 : Int).toNat * 8 + 2, none⟩ = false := hfr20 2
                          have hf20_3 : wr.frozen? ⟨go20, (x8_2 : Int).toNat * 8 + 3, none⟩ = false := hfr20 3
                          have hf20_4 : wr.frozen? ⟨go20, (x8_2 : Int).toNat * 8 + 4, none⟩ = false := hfr20 4
                          have hf20_5 : wr.frozen? ⟨go20, (x8_2 : Int).toNat * 8 + 5, none⟩ = false := hfr20 5
                          have hf20_6 : wr.frozen? ⟨go20, (x8_2 : Int).toNat * 8 + 6, none⟩ = false := hfr20 6
                          have hf20_7 : wr.frozen? ⟨go20, (x8_2 : Int).toNat * 8 + 7, none⟩ = false := hfr20 7
                          clear hcl20 hcc20 hfr20 hM20
                          replace p20 := eq_true p20
                          replace q20 := eq_true q20
                          have HX24 := Aside0.mk (show Kd.R k59 59 wr w.heap.size (fun _ => True) (.slice (some ⟨go20, 0, none⟩) x4_2.length co22) x4_2 from (by (with_reducible repeat (first | apply Kd.R_alloc | apply Kd.R_drewN | apply Kd.R_drew)); exact HO_4.out))
                          obtain ⟨ce24, hcl24, hM24, hcc24, hfr24⟩ := Kd.R_elem HX24.out z59 (x8_2 : Int) (of_decide_eq_true (by first | (with_reducible assumption) | assumption)) (by have h_ : (x8_2 : Int) < ((x4_2.length : Int) : Int) := of_decide_eq_true (by first | (with_reducible assumption) | assumption); first | exact h_ | (have e_ := (Kd.R_reads' HO_4.out).1; omega) | simpa using h_)
                          obtain rfl := k59_openM hM24
                          have HP24 := Kd.R_seg HX24.out (x8_2 : Int) (of_decide_eq_true (by first | (with_reducible assumption) | assumption)) (by have h_ : (x8_2 : Int) < ((x4_2.length : Int) : Int) := of_decide_eq_true (by first | (with_reducible assumption) | assumption); first | exact h_ | (have e_ := (Kd.R_reads' HO_4.out).1; omega) | simpa using h_) (seg := [.int .i64 ((rd_T39 l0 x6_1).f4)]) (j := 2) hcl24 hcc24 (show 3 ≤ 8 from by decide) (x' := (⟨(rd_T59 x4_2 x8_2).f0, (rd_T59 x4_2 x8_2).f1, ((rd_T39 l0 x6_1).f4), (rd_T59 x4_2 x8_2).f3, (rd_T59 x4_2 x8_2).f4, (rd_T59 x4_2 x8_2).f5, (rd_T59 x4_2 x8_2).f6, (rd_T59 x4_2 x8_2).f7⟩ : S59)) (k59_mkM _ _ _ (⟨(rd_T59 x4_2 x8_2).f0, (rd_T59 x4_2 x8_2).f1, ((rd_T39 l0 x6_1).f4), (rd_T59 x4_2 x8_2).f3, (rd_T59 x4_2 x8_2).f4, (rd_T59 x4_2 x8_2).f5, (rd_T59 x4_2 x8_2).f6, (rd_T59 x4_2 x8_2).f7⟩ : S59) ) (fun _ hk => hk)
                          have hx24_2 := hcc24 2 _ rfl
                          (try simp only [show (k59).sz = 8 from rfl, Nat.mul_one, Nat.add_zero] at hx24_2)
                          have hf24_2 := hfr24 2
                          (try simp only [show (k59).sz = 8 from rfl, Nat.mul_one, Nat.add_zero] at hf24_2)
                          clear hcl24 hcc24 hfr24 hM24
                          go_wp2_with (first | ((with_reducible refine gate_store (t := 3) (p := 46) rfl ?_); (try (rw [drewN_self wr]; generalize hq_ : World.drewN wr _ = wr; have n0_ := Aside0.mk (Kd.R_at hq_ HO_4.out); have n1_ := Aside0.mk (blk_at hq_ BK178.out); have n2_ := Aside0.mk (below_at hq_ HB.out); clear hq_ HO_4 BK178 HB; have HO_4 := n0_; have BK178 := n1_; have HB := n2_; clear n0_ n1_ n2_; (try (have HX24 := Aside0.mk (show Kd.R k59 59 wr w.heap.size (fun _ => True) (.slice (some ⟨go20, 0, none⟩) x4_2.length co22) x4_2 from (by (with_reducible repeat (first | apply Kd.R_alloc | apply Kd.R_drewN | apply Kd.R_drew)); exact HO_4.out)))); (try (obtain ⟨ce24, hcl24, hM24, hcc24, hfr24⟩ := Kd.R_elem HX24.out z59 (x8_2 : Int) (of_decide_eq_true (by first | (with_reducible assumption) | assumption)) (by have h_ : (x8_2 : Int) < ((x4_2.length : Int) : Int) := of_decide_eq_true (by first | (with_reducible assumption) | assumption); first | exact h_ | (have e_ := (Kd.R_reads' HO_4.out).1; omega) | simpa using h_))); (try (obtain rfl := k59_openM hM24)); (try (have HP24 := Kd.R_seg HX24.out (x8_2 : Int) (of_decide_eq_true (by first | (with_reducible assumption) | assumption)) (by have h_ : (x8_2 : Int) < ((x4_2.length : Int) : Int) := of_decide_eq_true (by first | (with_reducible assumption) | assumption); first | exact h_ | (have e_ := (Kd.R_reads' HO_4.out).1; omega) | simpa using h_) (seg := [.int .i64 ((rd_T39 l0 x6_1).f4)]) (j := 2) hcl24 hcc24 (show 3 ≤ 8 from by decide) (x' := (⟨(rd_T59 x4_2 x8_2).f0, (rd_T59 x4_2 x8_2).f1, ((rd_T39 l0 x6_1).f4), (rd_T59 x4_2 x8_2).f3, (rd_T59 x4_2 x8_2).f4, (rd_T59 x4_2 x8_2).f5, (rd_T59 x4_2 x8_2).f6, (rd_T59 x4_2 x8_2).f7⟩ : S59)) (k59_mkM _ _ _ (⟨(rd_T59 x4_2 x8_2).f0, (rd_T59 x4_2 x8_2).f1, ((rd_T39 l0 x6_1).f4), (rd_T59 x4_2 x8_2).f3, (rd_T59 x4_2 x8_2).f4, (rd_T59 x4_2 x8_2).f5, (rd_T59 x4_2 x8_2).f6, (rd_T59 x4_2 x8_2).f7⟩ : S59) ) (fun _ hk => hk))); (try (have hx24_2 := hcc24 2 _ rfl)); (try (try simp only [show (k59).sz = 8 from rfl, Nat.mul_one, Nat.add_zero] at hx24_2)); (try (have hf24_2 := hfr24 2)); (try (try simp only [show (k59).sz = 8 from rfl, Nat.mul_one, Nat.add_zero] at hf24_2)); (try (clear hcl24 hcc24 hfr24 hM24)))); refine store_event (t := 3) (p := 46) (v := ?vo_w25) (w1 := (wr.setCell ⟨go20, (x8_2 : Int).toNat * 8 + 2, none⟩ (.int .i64 ((rd_T39 l0 x6_1).f4)))) ?hg ?ho ?hn ?hr ?_; (case ho => rfl); (case hg => rfl); (case hn => rfl); (case hr => first | (go_simp; done) | (go_simp; rfl)); intro w25 hw; have hg : wr.grownBy w25 (some go20) := (by rw [hw]; exact HP24.2); have hp_ : Kd.R k59 59 w25 w.heap.size (fun _ => True) (.slice (some ⟨go20, 0, none⟩) x4_2.length co22) y183 := (by rw [hw, Ny183.out]; exact HP24.1); clear HP24; have n0_ := Aside0.mk (hp_); have n1_ := Aside0.mk (blk_grown (g := gb178) (o := .cells #[.int .i64 ((rd_T39 l0 x6_1).f0), .int .i64 ((rd_T39 l0 x6_1).f1), .bool ((rd_T39 l0 x6_1).f2), .int .i64 ((rd_T39 l0 x6_1).f3), .int .i64 ((rd_T39 l0 x6_1).f4), .bool ((rd_T39 l0 x6_1).f5)] 39 (0, 0)) (by (with_reducible repeat (first | refine blk_drewN ?_ _ | refine blk_drew ?_ | refine blk_alloc ?_ _)); exact BK178.out) hg (Kd.R_ne HO_4.out BK178.out (by decide))); have n2_ := Aside0.mk ((by rw [hw]; exact below_set (HB.out) GB20.out : Below w.heap.size w w25)); clear HO_4; clear BK178; clear HB; have HO_4 := n0_; have BK178 := n1_; have HB := n2_; clear n0_ n1_ n2_; clear hg hw hp_; have p21 : 0 ≤ (x8_2 : Int) := of_decide_eq_true (by first | (with_reducible assumption) | assumption); have q21 : (x8_2 : Int) < ((x4_2.length : Int) : Int) := of_decide_eq_true (by first | (with_reducible assumption) | assumption); obtain ⟨ce21, hcl21, hM21, hcc21, hfr21⟩ := Kd.R_elem HO_4.out z59 (x8_2 : Int) p21 q21; obtain rfl := k59_openM hM21; have hx21_0 : w25.cell? ⟨go20, (x8_2 : Int).toNat * 8, none⟩ = some (.int .i64 ((rd_T59 y183 x8_2).f0)) := hcc21 0 _ rfl; have hx21_1 : w25.cell? ⟨go20, (x8_2 : Int).toNat * 8 + 1, none⟩ = some (.int .i64 ((rd_T59 y183 x8_2).f1)) := hcc21 1 _ rfl; have hx21_2 : w25.cell? ⟨go20, (x8_2 : Int).toNat * 8 + 2, none⟩ = some (.int .i64 ((rd_T59 y183 x8_2).f2)) := hcc21 2 _ rfl; have hx21_3 : w25.cell? ⟨go20, (x8_2 : Int).toNat * 8 + 3, none⟩ = some (.bool ((rd_T59 y183 x8_2).f3)) := hcc21 3 _ rfl; have hx21_4 : w25.cell? ⟨go20, (x8_2 : Int).toNat * 8 + 4, none⟩ = some (.bool ((rd_T59 y183 x8_2).f4)) := hcc21 4 _ rfl; have hx21_5 : w25.cell? ⟨go20, (x8_2 : Int).toNat * 8 + 5, none⟩ = some (.int .i64 ((rd_T59 y183 x8_2).f5)) := hcc21 5 _ rfl; have hx21_6 : w25.cell? ⟨go20, (x8_2 : Int).toNat * 8 + 6, none⟩ = some (.int .i64 ((rd_T59 y183 x8_2).f6)) := hcc21 6 _ rfl; have hx21_7 : w25.cell? ⟨go20, (x8_2 : Int).toNat * 8 + 7, none⟩ = some (.int .i64 ((rd_T59 y183 x8_2).f7)) := hcc21 7 _ rfl; have hf21_0 : w25.frozen? ⟨go20, (x8_2 : Int).toNat * 8, none⟩ = false := hfr21 0; have hf21_1 : w25.frozen? ⟨go20, (x8_2 : Int).toNat * 8 + 1, none⟩ = false := hfr21 1; have hf21_2 : w25.frozen? ⟨go20, (x8_2 : Int).toNat * 8 + 2, none⟩ = false := hfr21 2; have hf21_3 : w25.frozen? ⟨go20, (x8_2 : Int).toNat * 8 + 3, none⟩ = false := hfr21 3; have hf21_4 : w25.frozen? ⟨go20, (x8_2 : Int).toNat * 8 + 4, none⟩ = false := hfr21 4; have hf21_5 : w25.frozen? ⟨go20, (x8_2 : Int).toNat * 8 + 5, none⟩ = false := hfr21 5; have hf21_6 : w25.frozen? ⟨go20, (x8_2 : Int).toNat * 8 + 6, none⟩ = false := hfr21 6; have hf21_7 : w25.frozen? ⟨go20, (x8_2 : Int).toNat * 8 + 7, none⟩ = false := hfr21 7; clear hcl21 hcc21 hfr21 hM21; replace p21 := eq_true p21; replace q21 := eq_true q21; have HX26 := Aside0.mk (show Kd.R k59 59 w25 w.heap.size (fun _ => True) (.slice (some ⟨go20, 0, none⟩) x4_2.length co22) y183 from (by (with_reducible repeat (first | apply Kd.R_alloc | apply Kd.R_drewN | apply Kd.R_drew)); exact HO_4.out)); obtain ⟨ce26, hcl26, hM26, hcc26, hfr26⟩ := Kd.R_elem HX26.out z59 (x8_2 : Int) (of_decide_eq_true (by first | (with_reducible assumption) | assumption)) (by have h_ : (x8_2 : Int) < ((x4_2.length : Int) : Int) := of_decide_eq_true (by first | (with_reducible assumption) | assumption); first | exact h_ | (have e_ := (Kd.R_reads' HO_4.out).1; omega) | simpa using h_); obtain rfl := k59_openM hM26; have HP26 := Kd.R_seg HX26.out (x8_2 : Int) (of_decide_eq_true (by first | (with_reducible assumption) | assumption)) (by have h_ : (x8_2 : Int) < ((x4_2.length : Int) : Int) := of_decide_eq_true (by first | (with_reducible assumption) | assumption); first | exact h_ | (have e_ := (Kd.R_reads' HO_4.out).1; omega) | simpa using h_) (seg := [.int .i64 x6_1]) (j := 7) hcl26 hcc26 (show 8 ≤ 8 from by decide) (x' := (⟨(rd_T59 y183 x8_2).f0, (rd_T59 y183 x8_2).f1, (rd_T59 y183 x8_2).f2, (rd_T59 y183 x8_2).f3, (rd_T59 y183 x8_2).f4, (rd_T59 y183 x8_2).f5, (rd_T59 y183 x8_2).f6, x6_1⟩ : S59)) (k59_mkM _ _ _ (⟨(rd_T59 y183 x8_2).f0, (rd_T59 y183 x8_2).f1, (rd_T59 y183 x8_2).f2, (rd_T59 y183 x8_2).f3, (rd_T59 y183 x8_2).f4, (rd_T59 y183 x8_2).f5, (rd_T59 y183 x8_2).f6, x6_1⟩ : S59) ) (fun _ hk => hk); have hx26_7 := hcc26 7 _ rfl; (try simp only [show (k59).sz = 8 from rfl, Nat.mul_one, Nat.add_zero] at hx26_7); have hf26_7 := hfr26 7; (try simp only [show (k59).sz = 8 from rfl, Nat.mul_one, Nat.add_zero] at hf26_7); clear hcl26 hcc26 hfr26 hM26) | ((with_reducible refine gate_store (t := 3) (p := 48) rfl ?_); (try (rw [drewN_self w25]; generalize hq_ : World.drewN w25 _ = w25; have n0_ := Aside0.mk (Kd.R_at hq_ HO_4.out); have n1_ := Aside0.mk (blk_at hq_ BK178.out); have n2_ := Aside0.mk (below_at hq_ HB.out); clear hq_ HO_4 BK178 HB; have HO_4 := n0_; have BK178 := n1_; have HB := n2_; clear n0_ n1_ n2_; (try (have HX26 := Aside0.mk (show Kd.R k59 59 w25 w.heap.size (fun _ => True) (.slice (some ⟨go20, 0, none⟩) x4_2.length co22) y183 from (by (with_reducible repeat (first | apply Kd.R_alloc | apply Kd.R_drewN | apply Kd.R_drew)); exact HO_4.out)))); (try (obtain ⟨ce26, hcl26, hM26, hcc26, hfr26⟩ := Kd.R_elem HX26.out z59 (x8_2 : Int) (of_decide_eq_true (by first | (with_reducible assumption) | assumption)) (by have h_ : (x8_2 : Int) < ((x4_2.length : Int) : Int) := of_decide_eq_true (by first | (with_reducible assumption) | assumption); first | exact h_ | (have e_ := (Kd.R_reads' HO_4.out).1; omega) | simpa using h_))); (try (obtain rfl := k59_openM hM26)); (try (have HP26 := Kd.R_seg HX26.out (x8_2 : Int) (of_decide_eq_true (by first | (with_reducible assumption) | assumption)) (by have h_ : (x8_2 : Int) < ((x4_2.length : Int) : Int) := of_decide_eq_true (by first | (with_reducible assumption) | assumption); first | exact h_ | (have e_ := (Kd.R_reads' HO_4.out).1; omega) | simpa using h_) (seg := [.int .i64 x6_1]) (j := 7) hcl26 hcc26 (show 8 ≤ 8 from by decide) (x' := (⟨(rd_T59 y183 x8_2).f0, (rd_T59 y183 x8_2).f1, (rd_T59 y183 x8_2).f2, (rd_T59 y183 x8_2).f3, (rd_T59 y183 x8_2).f4, (rd_T59 y183 x8_2).f5, (rd_T59 y183 x8_2).f6, x6_1⟩ : S59)) (k59_mkM _ _ _ (⟨(rd_T59 y183 x8_2).f0, (rd_T59 y183 x8_2).f1, (rd_T59 y183 x8_2).f2, (rd_T59 y183 x8_2).f3, (rd_T59 y183 x8_2).f4, (rd_T59 y183 x8_2).f5, (rd_T59 y183 x8_2).f6, x6_1⟩ : S59) ) (fun _ hk => hk))); (try (have hx26_7 := hcc26 7 _ rfl)); (try (try simp only [show (k59).sz = 8 from rfl, Nat.mul_one, Nat.add_zero] at hx26_7)); (try (have hf26_7 := hfr26 7)); (try (try simp only [show (k59).sz = 8 from rfl, Nat.mul_one, Nat.add_zero] at hf26_7)); (try (clear hcl26 hcc26 hfr26 hM26)))); refine store_event (t := 3) (p := 48) (v := ?vo_w27) (w1 := (w25.setCell ⟨go20, (x8_2 : Int).toNat * 8 + 7, none⟩ (.int .i64 x6_1))) ?hg ?ho ?hn ?hr ?_; (case ho => rfl); (case hg => rfl); (case hn => rfl); (case hr => first | (go_simp; done) | (go_simp; rfl)); intro w27 hw; have hg : w25.grownBy w27 (some go20) := (by rw [hw]; exact HP26.2); have hp_ : Kd.R k59 59 w27 w.heap.size (fun _ => True) (.slice (some ⟨go20, 0, none⟩) x4_2.length co22) y184 := (by rw [hw, Ny184.out]; exact HP26.1); clear HP26; have n0_ := Aside0.mk (hp_); have n1_ := Aside0.mk (blk_grown (g := gb178) (o := .cells #[.int .i64 ((rd_T39 l0 x6_1).f0), .int .i64 ((rd_T39 l0 x6_1).f1), .bool ((rd_T39 l0 x6_1).f2), .int .i64 ((rd_T39 l0 x6_1).f3), .int .i64 ((rd_T39 l0 x6_1).f4), .bool ((rd_T39 l0 x6_1).f5)] 39 (0, 0)) (by (with_reducible repeat (first | refine blk_drewN ?_ _ | refine blk_drew ?_ | refine blk_alloc ?_ _)); exact BK178.out) hg (Kd.R_ne HO_4.out BK178.out (by decide))); have n2_ := Aside0.mk ((by rw [hw]; exact below_set (HB.out) GB20.out : Below w.heap.size w w27)); clear HO_4; clear BK178; clear HB; have HO_4 := n0_; have BK178 := n1_; have HB := n2_; clear n0_ n1_ n2_; clear hg hw hp_))
                          repeat (go_quiet (first | ((with_reducible refine gate_store (t := 3) (p := 46) rfl ?_); (try (rw [drewN_self wr]; generalize hq_ : World.drewN wr _ = wr; have n0_ := Aside0.mk (Kd.R_at hq_ HO_4.out); have n1_ := Aside0.mk (blk_at hq_ BK178.out); have n2_ := Aside0.mk (below_at hq_ HB.out); clear hq_ HO_4 BK178 HB; have HO_4 := n0_; have BK178 := n1_; have HB := n2_; clear n0_ n1_ n2_; (try (have HX24 := Aside0.mk (show Kd.R k59 59 wr w.heap.size (fun _ => True) (.slice (some ⟨go20, 0, none⟩) x4_2.length co22) x4_2 from (by (with_reducible repeat (first | apply Kd.R_alloc | apply Kd.R_drewN | apply Kd.R_drew)); exact HO_4.out)))); (try (obtain ⟨ce24, hcl24, hM24, hcc24, hfr24⟩ := Kd.R_elem HX24.out z59 (x8_2 : Int) (of_decide_eq_true (by first | (with_reducible assumption) | assumption)) (by have h_ : (x8_2 : Int) < ((x4_2.length : Int) : Int) := of_decide_eq_true (by first | (with_reducible assumption) | assumption); first | exact h_ | (have e_ := (Kd.R_reads' HO_4.out).1; omega) | simpa using h_))); (try (obtain rfl := k59_openM hM24)); (try (have HP24 := Kd.R_seg HX24.out (x8_2 : Int) (of_decide_eq_true (by first | (with_reducible assumption) | assumption)) (by have h_ : (x8_2 : Int) < ((x4_2.length : Int) : Int) := of_decide_eq_true (by first | (with_reducible assumption) | assumption); first | exact h_ | (have e_ := (Kd.R_reads' HO_4.out).1; omega) | simpa using h_) (seg := [.int .i64 ((rd_T39 l0 x6_1).f4)]) (j := 2) hcl24 hcc24 (show 3 ≤ 8 from by decide) (x' := (⟨(rd_T59 x4_2 x8_2).f0, (rd_T59 x4_2 x8_2).f1, ((rd_T39 l0 x6_1).f4), (rd_T59 x4_2 x8_2).f3, (rd_T59 x4_2 x8_2).f4, (rd_T59 x4_2 x8_2).f5, (rd_T59 x4_2 x8_2).f6, (rd_T59 x4_2 x8_2).f7⟩ : S59)) (k59_mkM _ _ _ (⟨(rd_T59 x4_2 x8_2).f0, (rd_T59 x4_2 x8_2).f1, ((rd_T39 l0 x6_1).f4), (rd_T59 x4_2 x8_2).f3, (rd_T59 x4_2 x8_2).f4, (rd_T59 x4_2 x8_2).f5, (rd_T59 x4_2 x8_2).f6, (rd_T59 x4_2 x8_2).f7⟩ : S59) ) (fun _ hk => hk))); (try (have hx24_2 := hcc24 2 _ rfl)); (try (try simp only [show (k59).sz = 8 from rfl, Nat.mul_one, Nat.add_zero] at hx24_2)); (try (have hf24_2 := hfr24 2)); (try (try simp only [show (k59).sz = 8 from rfl, Nat.mul_one, Nat.add_zero] at hf24_2)); (try (clear hcl24 hcc24 hfr24 hM24)))); refine store_event (t := 3) (p := 46) (v := ?vo_w25) (w1 := (wr.setCell ⟨go20, (x8_2 : Int).toNat * 8 + 2, none⟩ (.int .i64 ((rd_T39 l0 x6_1).f4)))) ?hg ?ho ?hn ?hr ?_; (case ho => rfl); (case hg => rfl); (case hn => rfl); (case hr => first | (go_simp; done) | (go_simp; rfl)); intro w25 hw; have hg : wr.grownBy w25 (some go20) := (by rw [hw]; exact HP24.2); have hp_ : Kd.R k59 59 w25 w.heap.size (fun _ => True) (.slice (some ⟨go20, 0, none⟩) x4_2.length co22) y183 := (by rw [hw, Ny183.out]; exact HP24.1); clear HP24; have n0_ := Aside0.mk (hp_); have n1_ := Aside0.mk (blk_grown (g := gb178) (o := .cells #[.int .i64 ((rd_T39 l0 x6_1).f0), .int .i64 ((rd_T39 l0 x6_1).f1), .bool ((rd_T39 l0 x6_1).f2), .int .i64 ((rd_T39 l0 x6_1).f3), .int .i64 ((rd_T39 l0 x6_1).f4), .bool ((rd_T39 l0 x6_1).f5)] 39 (0, 0)) (by (with_reducible repeat (first | refine blk_drewN ?_ _ | refine blk_drew ?_ | refine blk_alloc ?_ _)); exact BK178.out) hg (Kd.R_ne HO_4.out BK178.out (by decide))); have n2_ := Aside0.mk ((by rw [hw]; exact below_set (HB.out) GB20.out : Below w.heap.size w w25)); clear HO_4; clear BK178; clear HB; have HO_4 := n0_; have BK178 := n1_; have HB := n2_; clear n0_ n1_ n2_; clear hg hw hp_; have p21 : 0 ≤ (x8_2 : Int) := of_decide_eq_true (by first | (with_reducible assumption) | assumption); have q21 : (x8_2 : Int) < ((x4_2.length : Int) : Int) := of_decide_eq_true (by first | (with_reducible assumption) | assumption); obtain ⟨ce21, hcl21, hM21, hcc21, hfr21⟩ := Kd.R_elem HO_4.out z59 (x8_2 : Int) p21 q21; obtain rfl := k59_openM hM21; have hx21_0 : w25.cell? ⟨go20, (x8_2 : Int).toNat * 8, none⟩ = some (.int .i64 ((rd_T59 y183 x8_2).f0)) := hcc21 0 _ rfl; have hx21_1 : w25.cell? ⟨go20, (x8_2 : Int).toNat * 8 + 1, none⟩ = some (.int .i64 ((rd_T59 y183 x8_2).f1)) := hcc21 1 _ rfl; have hx21_2 : w25.cell? ⟨go20, (x8_2 : Int).toNat * 8 + 2, none⟩ = some (.int .i64 ((rd_T59 y183 x8_2).f2)) := hcc21 2 _ rfl; have hx21_3 : w25.cell? ⟨go20, (x8_2 : Int).toNat * 8 + 3, none⟩ = some (.bool ((rd_T59 y183 x8_2).f3)) := hcc21 3 _ rfl; have hx21_4 : w25.cell? ⟨go20, (x8_2 : Int).toNat * 8 + 4, none⟩ = some (.bool ((rd_T59 y183 x8_2).f4)) := hcc21 4 _ rfl; have hx21_5 : w25.cell? ⟨go20, (x8_2 : Int).toNat * 8 + 5, none⟩ = some (.int .i64 ((rd_T59 y183 x8_2).f5)) := hcc21 5 _ rfl; have hx21_6 : w25.cell? ⟨go20, (x8_2 : Int).toNat * 8 + 6, none⟩ = some (.int .i64 ((rd_T59 y183 x8_2).f6)) := hcc21 6 _ rfl; have hx21_7 : w25.cell? ⟨go20, (x8_2 : Int).toNat * 8 + 7, none⟩ = some (.int .i64 ((rd_T59 y183 x8_2).f7)) := hcc21 7 _ rfl; have hf21_0 : w25.frozen? ⟨go20, (x8_2 : Int).toNat * 8, none⟩ = false := hfr21 0; have hf21_1 : w25.frozen? ⟨go20, (x8_2 : Int).toNat * 8 + 1, none⟩ = false := hfr21 1; have hf21_2 : w25.frozen? ⟨go20, (x8_2 : Int).toNat * 8 + 2, none⟩ = false := hfr21 2; have hf21_3 : w25.frozen? ⟨go20, (x8_2 : Int).toNat * 8 + 3, none⟩ = false := hfr21 3; have hf21_4 : w25.frozen? ⟨go20, (x8_2 : Int).toNat * 8 + 4, none⟩ = false := hfr21 4; have hf21_5 : w25.frozen? ⟨go20, (x8_2 : Int).toNat * 8 + 5, none⟩ = false := hfr21 5; have hf21_6 : w25.frozen? ⟨go20, (x8_2 : Int).toNat * 8 + 6, none⟩ = false := hfr21 6; have hf21_7 : w25.frozen? ⟨go20, (x8_2 : Int).toNat * 8 + 7, none⟩ = false := hfr21 7; clear hcl21 hcc21 hfr21 hM21; replace p21 := eq_true p21; replace q21 := eq_true q21; have HX26 := Aside0.mk (show Kd.R k59 59 w25 w.heap.size (fun _ => True) (.slice (some ⟨go20, 0, none⟩) x4_2.length co22) y183 from (by (with_reducible repeat (first | apply Kd.R_alloc | apply Kd.R_drewN | apply Kd.R_drew)); exact HO_4.out)); obtain ⟨ce26, hcl26, hM26, hcc26, hfr26⟩ := Kd.R_elem HX26.out z59 (x8_2 : Int) (of_decide_eq_true (by first | (with_reducible assumption) | assumption)) (by have h_ : (x8_2 : Int) < ((x4_2.length : Int) : Int) := of_decide_eq_true (by first | (with_reducible assumption) | assumption); first | exact h_ | (have e_ := (Kd.R_reads' HO_4.out).1; omega) | simpa using h_); obtain rfl := k59_openM hM26; have HP26 := Kd.R_seg HX26.out (x8_2 : Int) (of_decide_eq_true (by first | (with_reducible assumption) | assumption)) (by have h_ : (x8_2 : Int) < ((x4_2.length : Int) : Int) := of_decide_eq_true (by first | (with_reducible assumption) | assumption); first | exact h_ | (have e_ := (Kd.R_reads' HO_4.out).1; omega) | simpa using h_) (seg := [.int .i64 x6_1]) (j := 7) hcl26 hcc26 (show 8 ≤ 8 from by decide) (x' := (⟨(rd_T59 y183 x8_2).f0, (rd_T59 y183 x8_2).f1, (rd_T59 y183 x8_2).f2, (rd_T59 y183 x8_2).f3, (rd_T59 y183 x8_2).f4, (rd_T59 y183 x8_2).f5, (rd_T59 y183 x8_2).f6, x6_1⟩ : S59)) (k59_mkM _ _ _ (⟨(rd_T59 y183 x8_2).f0, (rd_T59 y183 x8_2).f1, (rd_T59 y183 x8_2).f2, (rd_T59 y183 x8_2).f3, (rd_T59 y183 x8_2).f4, (rd_T59 y183 x8_2).f5, (rd_T59 y183 x8_2).f6, x6_1⟩ : S59) ) (fun _ hk => hk); have hx26_7 := hcc26 7 _ rfl; (try simp only [show (k59).sz = 8 from rfl, Nat.mul_one, Nat.add_zero] at hx26_7); have hf26_7 := hfr26 7; (try simp only [show (k59).sz = 8 from rfl, Nat.mul_one, Nat.add_zero] at hf26_7); clear hcl26 hcc26 hfr26 hM26) | ((with_reducible refine gate_store (t := 3) (p := 48) rfl ?_); (try (rw [drewN_self w25]; generalize hq_ : World.drewN w25 _ = w25; have n0_ := Aside0.mk (Kd.R_at hq_ HO_4.out); have n1_ := Aside0.mk (blk_at hq_ BK178.out); have n2_ := Aside0.mk (below_at hq_ HB.out); clear hq_ HO_4 BK178 HB; have HO_4 := n0_; have BK178 := n1_; have HB := n2_; clear n0_ n1_ n2_; (try (have HX26 := Aside0.mk (show Kd.R k59 59 w25 w.heap.size (fun _ => True) (.slice (some ⟨go20, 0, none⟩) x4_2.length co22) y183 from (by (with_reducible repeat (first | apply Kd.R_alloc | apply Kd.R_drewN | apply Kd.R_drew)); exact HO_4.out)))); (try (obtain ⟨ce26, hcl26, hM26, hcc26, hfr26⟩ := Kd.R_elem HX26.out z59 (x8_2 : Int) (of_decide_eq_true (by first | (with_reducible assumption) | assumption)) (by have h_ : (x8_2 : Int) < ((x4_2.length : Int) : Int) := of_decide_eq_true (by first | (with_reducible assumption) | assumption); first | exact h_ | (have e_ := (Kd.R_reads' HO_4.out).1; omega) | simpa using h_))); (try (obtain rfl := k59_openM hM26)); (try (have HP26 := Kd.R_seg HX26.out (x8_2 : Int) (of_decide_eq_true (by first | (with_reducible assumption) | assumption)) (by have h_ : (x8_2 : Int) < ((x4_2.length : Int) : Int) := of_decide_eq_true (by first | (with_reducible assumption) | assumption); first | exact h_ | (have e_ := (Kd.R_reads' HO_4.out).1; omega) | simpa using h_) (seg := [.int .i64 x6_1]) (j := 7) hcl26 hcc26 (show 8 ≤ 8 from by decide) (x' := (⟨(rd_T59 y183 x8_2).f0, (rd_T59 y183 x8_2).f1, (rd_T59 y183 x8_2).f2, (rd_T59 y183 x8_2).f3, (rd_T59 y183 x8_2).f4, (rd_T59 y183 x8_2).f5, (rd_T59 y183 x8_2).f6, x6_1⟩ : S59)) (k59_mkM _ _ _ (⟨(rd_T59 y183 x8_2).f0, (rd_T59 y183 x8_2).f1, (rd_T59 y183 x8_2).f2, (rd_T59 y183 x8_2).f3, (rd_T59 y183 x8_2).f4, (rd_T59 y183 x8_2).f5, (rd_T59 y183 x8_2).f6, x6_1⟩ : S59) ) (fun _ hk => hk))); (try (have hx26_7 := hcc26 7 _ rfl)); (try (try simp only [show (k59).sz = 8 from rfl, Nat.mul_one, Nat.add_zero] at hx26_7)); (try (have hf26_7 := hfr26 7)); (try (try simp only [show (k59).sz = 8 from rfl, Nat.mul_one, Nat.add_zero] at hf26_7)); (try (clear hcl26 hcc26 hfr26 hM26)))); refine store_event (t := 3) (p := 48) (v := ?vo_w27) (w1 := (w25.setCell ⟨go20, (x8_2 : Int).toNat * 8 + 7, none⟩ (.int .i64 x6_1))) ?hg ?ho ?hn ?hr ?_; (case ho => rfl); (case hg => rfl); (case hn => rfl); (case hr => first | (go_simp; done) | (go_simp; rfl)); intro w27 hw; have hg : w25.grownBy w27 (some go20) := (by rw [hw]; exact HP26.2); have hp_ : Kd.R k59 59 w27 w.heap.size (fun _ => True) (.slice (some ⟨go20, 0, none⟩) x4_2.length co22) y184 := (by rw [hw, Ny184.out]; exact HP26.1); clear HP26; have n0_ := Aside0.mk (hp_); have n1_ := Aside0.mk (blk_grown (g := gb178) (o := .cells #[.int .i64 ((rd_T39 l0 x6_1).f0), .int .i64 ((rd_T39 l0 x6_1).f1), .bool ((rd_T39 l0 x6_1).f2), .int .i64 ((rd_T39 l0 x6_1).f3), .int .i64 ((rd_T39 l0 x6_1).f4), .bool ((rd_T39 l0 x6_1).f5)] 39 (0, 0)) (by (with_reducible repeat (first | refine blk_drewN ?_ _ | refine blk_drew ?_ | refine blk_alloc ?_ _)); exact BK178.out) hg (Kd.R_ne HO_4.out BK178.out (by decide))); have n2_ := Aside0.mk ((by rw [hw]; exact below_set (HB.out) GB20.out : Below w.heap.size w w27)); clear HO_4; clear BK178; clear HB; have HO_4 := n0_; have BK178 := n1_; have HB := n2_; clear n0_ n1_ n2_; clear hg hw hp_)); try go_wp2_with (first | ((with_reducible refine gate_store (t := 3) (p := 46) rfl ?_); (try (rw [drewN_self wr]; generalize hq_ : World.drewN wr _ = wr; have n0_ := Aside0.mk (Kd.R_at hq_ HO_4.out); have n1_ := Aside0.mk (blk_at hq_ BK178.out); have n2_ := Aside0.mk (below_at hq_ HB.out); clear hq_ HO_4 BK178 HB; have HO_4 := n0_; have BK178 := n1_; have HB := n2_; clear n0_ n1_ n2_; (try (have HX24 := Aside0.mk (show Kd.R k59 59 wr w.heap.size (fun _ => True) (.slice (some ⟨go20, 0, none⟩) x4_2.length co22) x4_2 from (by (with_reducible repeat (first | apply Kd.R_alloc | apply Kd.R_drewN | apply Kd.R_drew)); exact HO_4.out)))); (try (obtain ⟨ce24, hcl24, hM24, hcc24, hfr24⟩ := Kd.R_elem HX24.out z59 (x8_2 : Int) (of_decide_eq_true (by first | (with_reducible assumption) | assumption)) (by have h_ : (x8_2 : Int) < ((x4_2.length : Int) : Int) := of_decide_eq_true (by first | (with_reducible assumption) | assumption); first | exact h_ | (have e_ := (Kd.R_reads' HO_4.out).1; omega) | simpa using h_))); (try (obtain rfl := k59_openM hM24)); (try (have HP24 := Kd.R_seg HX24.out (x8_2 : Int) (of_decide_eq_true (by first | (with_reducible assumption) | assumption)) (by have h_ : (x8_2 : Int) < ((x4_2.length : Int) : Int) := of_decide_eq_true (by first | (with_reducible assumption) | assumption); first | exact h_ | (have e_ := (Kd.R_reads' HO_4.out).1; omega) | simpa using h_) (seg := [.int .i64 ((rd_T39 l0 x6_1).f4)]) (j := 2) hcl24 hcc24 (show 3 ≤ 8 from by decide) (x' := (⟨(rd_T59 x4_2 x8_2).f0, (rd_T59 x4_2 x8_2).f1, ((rd_T39 l0 x6_1).f4), (rd_T59 x4_2 x8_2).f3, (rd_T59 x4_2 x8_2).f4, (rd_T59 x4_2 x8_2).f5, (rd_T59 x4_2 x8_2).f6, (rd_T59 x4_2 x8_2).f7⟩ : S59)) (k59_mkM _ _ _ (⟨(rd_T59 x4_2 x8_2).f0, (rd_T59 x4_2 x8_2).f1, ((rd_T39 l0 x6_1).f4), (rd_T59 x4_2 x8_2).f3, (rd_T59 x4_2 x8_2).f4, (rd_T59 x4_2 x8_2).f5, (rd_T59 x4_2 x8_2).f6, (rd_T59 x4_2 x8_2).f7⟩ : S59) ) (fun _ hk => hk))); (try (have hx24_2 := hcc24 2 _ rfl)); (try (try simp only [show (k59).sz = 8 from rfl, Nat.mul_one, Nat.add_zero] at hx24_2)); (try (have hf24_2 := hfr24 2)); (try (try simp only [show (k59).sz = 8 from rfl, Nat.mul_one, Nat.add_zero] at hf24_2)); (try (clear hcl24 hcc24 hfr24 hM24)))); refine store_event (t := 3) (p := 46) (v := ?vo_w25) (w1 := (wr.setCell ⟨go20, (x8_2 : Int).toNat * 8 + 2, none⟩ (.int .i64 ((rd_T39 l0 x6_1).f4)))) ?hg ?ho ?hn ?hr ?_; (case ho => rfl); (case hg => rfl); (case hn => rfl); (case hr => first | (go_simp; done) | (go_simp; rfl)); intro w25 hw; have hg : wr.grownBy w25 (some go20) := (by rw [hw]; exact HP24.2); have hp_ : Kd.R k59 59 w25 w.heap.size (fun _ => True) (.slice (some ⟨go20, 0, none⟩) x4_2.length co22) y183 := (by rw [hw, Ny183.out]; exact HP24.1); clear HP24; have n0_ := Aside0.mk (hp_); have n1_ := Aside0.mk (blk_grown (g := gb178) (o := .cells #[.int .i64 ((rd_T39 l0 x6_1).f0), .int .i64 ((rd_T39 l0 x6_1).f1), .bool ((rd_T39 l0 x6_1).f2), .int .i64 ((rd_T39 l0 x6_1).f3), .int .i64 ((rd_T39 l0 x6_1).f4), .bool ((rd_T39 l0 x6_1).f5)] 39 (0, 0)) (by (with_reducible repeat (first | refine blk_drewN ?_ _ | refine blk_drew ?_ | refine blk_alloc ?_ _)); exact BK178.out) hg (Kd.R_ne HO_4.out BK178.out (by decide))); have n2_ := Aside0.mk ((by rw [hw]; exact below_set (HB.out) GB20.out : Below w.heap.size w w25)); clear HO_4; clear BK178; clear HB; have HO_4 := n0_; have BK178 := n1_; have HB := n2_; clear n0_ n1_ n2_; clear hg hw hp_; have p21 : 0 ≤ (x8_2 : Int) := of_decide_eq_true (by first | (with_reducible assumption) | assumption); have q21 : (x8_2 : Int) < ((x4_2.length : Int) : Int) := of_decide_eq_true (by first | (with_reducible assumption) | assumption); obtain ⟨ce21, hcl21, hM21, hcc21, hfr21⟩ := Kd.R_elem HO_4.out z59 (x8_2 : Int) p21 q21; obtain rfl := k59_openM hM21; have hx21_0 : w25.cell? ⟨go20, (x8_2 : Int).toNat * 8, none⟩ = some (.int .i64 ((rd_T59 y183 x8_2).f0)) := hcc21 0 _ rfl; have hx21_1 : w25.cell? ⟨go20, (x8_2 : Int).toNat * 8 + 1, none⟩ = some (.int .i64 ((rd_T59 y183 x8_2).f1)) := hcc21 1 _ rfl; have hx21_2 : w25.cell? ⟨go20, (x8_2 : Int).toNat * 8 + 2, none⟩ = some (.int .i64 ((rd_T59 y183 x8_2).f2)) := hcc21 2 _ rfl; have hx21_3 : w25.cell? ⟨go20, (x8_2 : Int).toNat * 8 + 3, none⟩ = some (.bool ((rd_T59 y183 x8_2).f3)) := hcc21 3 _ rfl; have hx21_4 : w25.cell? ⟨go20, (x8_2 : Int).toNat * 8 + 4, none⟩ = some (.bool ((rd_T59 y183 x8_2).f4)) := hcc21 4 _ rfl; have hx21_5 : w25.cell? ⟨go20, (x8_2 : Int).toNat * 8 + 5, none⟩ = some (.int .i64 ((rd_T59 y183 x8_2).f5)) := hcc21 5 _ rfl; have hx21_6 : w25.cell? ⟨go20, (x8_2 : Int).toNat * 8 + 6, none⟩ = some (.int .i64 ((rd_T59 y183 x8_2).f6)) := hcc21 6 _ rfl; have hx21_7 : w25.cell? ⟨go20, (x8_2 : Int).toNat * 8 + 7, none⟩ = some (.int .i64 ((rd_T59 y183 x8_2).f7)) := hcc21 7 _ rfl; have hf21_0 : w25.frozen? ⟨go20, (x8_2 : Int).toNat * 8, none⟩ = false := hfr21 0; have hf21_1 : w25.frozen? ⟨go20, (x8_2 : Int).toNat * 8 + 1, none⟩ = false := hfr21 1; have hf21_2 : w25.frozen? ⟨go20, (x8_2 : Int).toNat * 8 + 2, none⟩ = false := hfr21 2; have hf21_3 : w25.frozen? ⟨go20, (x8_2 : Int).toNat * 8 + 3, none⟩ = false := hfr21 3; have hf21_4 : w25.frozen? ⟨go20, (x8_2 : Int).toNat * 8 + 4, none⟩ = false := hfr21 4; have hf21_5 : w25.frozen? ⟨go20, (x8_2 : Int).toNat * 8 + 5, none⟩ = false := hfr21 5; have hf21_6 : w25.frozen? ⟨go20, (x8_2 : Int).toNat * 8 + 6, none⟩ = false := hfr21 6; have hf21_7 : w25.frozen? ⟨go20, (x8_2 : Int).toNat * 8 + 7, none⟩ = false := hfr21 7; clear hcl21 hcc21 hfr21 hM21; replace p21 := eq_true p21; replace q21 := eq_true q21; have HX26 := Aside0.mk (show Kd.R k59 59 w25 w.heap.size (fun _ => True) (.slice (some ⟨go20, 0, none⟩) x4_2.length co22) y183 from (by (with_reducible repeat (first | apply Kd.R_alloc | apply Kd.R_drewN | apply Kd.R_drew)); exact HO_4.out)); obtain ⟨ce26, hcl26, hM26, hcc26, hfr26⟩ := Kd.R_elem HX26.out z59 (x8_2 : Int) (of_decide_eq_true (by first | (with_reducible assumption) | assumption)) (by have h_ : (x8_2 : Int) < ((x4_2.length : Int) : Int) := of_decide_eq_true (by first | (with_reducible assumption) | assumption); first | exact h_ | (have e_ := (Kd.R_reads' HO_4.out).1; omega) | simpa using h_); obtain rfl := k59_openM hM26; have HP26 := Kd.R_seg HX26.out (x8_2 : Int) (of_decide_eq_true (by first | (with_reducible assumption) | assumption)) (by have h_ : (x8_2 : Int) < ((x4_2.length : Int) : Int) := of_decide_eq_true (by first | (with_reducible assumption) | assumption); first | exact h_ | (have e_ := (Kd.R_reads' HO_4.out).1; omega) | simpa using h_) (seg := [.int .i64 x6_1]) (j := 7) hcl26 hcc26 (show 8 ≤ 8 from by decide) (x' := (⟨(rd_T59 y183 x8_2).f0, (rd_T59 y183 x8_2).f1, (rd_T59 y183 x8_2).f2, (rd_T59 y183 x8_2).f3, (rd_T59 y183 x8_2).f4, (rd_T59 y183 x8_2).f5, (rd_T59 y183 x8_2).f6, x6_1⟩ : S59)) (k59_mkM _ _ _ (⟨(rd_T59 y183 x8_2).f0, (rd_T59 y183 x8_2).f1, (rd_T59 y183 x8_2).f2, (rd_T59 y183 x8_2).f3, (rd_T59 y183 x8_2).f4, (rd_T59 y183 x8_2).f5, (rd_T59 y183 x8_2).f6, x6_1⟩ : S59) ) (fun _ hk => hk); have hx26_7 := hcc26 7 _ rfl; (try simp only [show (k59).sz = 8 from rfl, Nat.mul_one, Nat.add_zero] at hx26_7); have hf26_7 := hfr26 7; (try simp only [show (k59).sz = 8 from rfl, Nat.mul_one, Nat.add_zero] at hf26_7); clear hcl26 hcc26 hfr26 hM26) | ((with_reducible refine gate_store (t := 3) (p := 48) rfl ?_); (try (rw [drewN_self w25]; generalize hq_ : World.drewN w25 _ = w25; have n0_ := Aside0.mk (Kd.R_at hq_ HO_4.out); have n1_ := Aside0.mk (blk_at hq_ BK178.out); have n2_ := Aside0.mk (below_at hq_ HB.out); clear hq_ HO_4 BK178 HB; have HO_4 := n0_; have BK178 := n1_; have HB := n2_; clear n0_ n1_ n2_; (try (have HX26 := Aside0.mk (show Kd.R k59 59 w25 w.heap.size (fun _ => True) (.slice (some ⟨go20, 0, none⟩) x4_2.length co22) y183 from (by (with_reducible repeat (first | apply Kd.R_alloc | apply Kd.R_drewN | apply Kd.R_drew)); exact HO_4.out)))); (try (obtain ⟨ce26, hcl26, hM26, hcc26, hfr26⟩ := Kd.R_elem HX26.out z59 (x8_2 : Int) (of_decide_eq_true (by first | (with_reducible assumption) | assumption)) (by have h_ : (x8_2 : Int) < ((x4_2.length : Int) : Int) := of_decide_eq_true (by first | (with_reducible assumption) | assumption); first | exact h_ | (have e_ := (Kd.R_reads' HO_4.out).1; omega) | simpa using h_))); (try (obtain rfl := k59_openM hM26)); (try (have HP26 := Kd.R_seg HX26.out (x8_2 : Int) (of_decide_eq_true (by first | (with_reducible assumption) | assumption)) (by have h_ : (x8_2 : Int) < ((x4_2.length : Int) : Int) := of_decide_eq_true (by first | (with_reducible assumption) | assumption); first | exact h_ | (have e_ := (Kd.R_reads' HO_4.out).1; omega) | simpa using h_) (seg := [.int .i64 x6_1]) (j := 7) hcl26 hcc26 (show 8 ≤ 8 from by decide) (x' := (⟨(rd_T59 y183 x8_2).f0, (rd_T59 y183 x8_2).f1, (rd_T59 y183 x8_2).f2, (rd_T59 y183 x8_2).f3, (rd_T59 y183 x8_2).f4, (rd_T59 y183 x8_2).f5, (rd_T59 y183 x8_2).f6, x6_1⟩ : S59)) (k59_mkM _ _ _ (⟨(rd_T59 y183 x8_2).f0, (rd_T59 y183 x8_2).f1, (rd_T59 y183 x8_2).f2, (rd_T59 y183 x8_2).f3, (rd_T59 y183 x8_2).f4, (rd_T59 y183 x8_2).f5, (rd_T59 y183 x8_2).f6, x6_1⟩ : S59) ) (fun _ hk => hk))); (try (have hx26_7 := hcc26 7 _ rfl)); (try (try simp only [show (k59).sz = 8 from rfl, Nat.mul_one, Nat.add_zero] at hx26_7)); (try (have hf26_7 := hfr26 7)); (try (try simp only [show (k59).sz = 8 from rfl, Nat.mul_one, Nat.add_zero] at hf26_7)); (try (clear hcl26 hcc26 hfr26 hM26)))); refine store_event (t := 3) (p := 48) (v := ?vo_w27) (w1 := (w25.setCell ⟨go20, (x8_2 : Int).toNat * 8 + 7, none⟩ (.int .i64 x6_1))) ?hg ?ho ?hn ?hr ?_; (case ho => rfl); (case hg => rfl); (case hn => rfl); (case hr => first | (go_simp; done) | (go_simp; rfl)); intro w27 hw; have hg : w25.grownBy w27 (some go20) := (by rw [hw]; exact HP26.2); have hp_ : Kd.R k59 59 w27 w.heap.size (fun _ => True) (.slice (some ⟨go20, 0, none⟩) x4_2.length co22) y184 := (by rw [hw, Ny184.out]; exact HP26.1); clear HP26; have n0_ := Aside0.mk (hp_); have n1_ := Aside0.mk (blk_grown (g := gb178) (o := .cells #[.int .i64 ((rd_T39 l0 x6_1).f0), .int .i64 ((rd_T39 l0 x6_1).f1), .bool ((rd_T39 l0 x6_1).f2), .int .i64 ((rd_T39 l0 x6_1).f3), .int .i64 ((rd_T39 l0 x6_1).f4), .bool ((rd_T39 l0 x6_1).f5)] 39 (0, 0)) (by (with_reducible repeat (first | refine blk_drewN ?_ _ | refine blk_drew ?_ | refine blk_alloc ?_ _)); exact BK178.out) hg (Kd.R_ne HO_4.out BK178.out (by decide))); have n2_ := Aside0.mk ((by rw [hw]; exact below_set (HB.out) GB20.out : Below w.heap.size w w27)); clear HO_4; clear BK178; clear HB; have HO_4 := n0_; have BK178 := n1_; have HB := n2_; clear n0_ n1_ n2_; clear hg hw hp_)))
                          go_roundg k2
                          case measure => have := HK1.out; have := HK2.out; omega
                          case rel => exact ⟨(y184), (wrap64 (x8_2 + 1)), (by first | rfl | (simp; done) | (simp [*]; done)), H', ⟨by have := HK1.out; have := HK2.out; omega⟩, ⟨by (with_reducible repeat (first | apply Kd.R_alloc | apply Kd.R_drewN | apply Kd.R_drew)); exact HO_4.out⟩, ⟨by (with_reducible repeat (first | refine blk_drewN ?_ _ | refine blk_drew ?_ | refine blk_alloc ?_ _)); exact BK178.out⟩, ⟨by repeat (first | (with_reducible first | exact HB.out | apply below_alloc | apply pw_below_drewN | apply below_drew1 | refine below_set ?_ GE178.out) | exact HB.out)⟩⟩
                        · rw [if_neg c19] at H
                          have c19b0 : (((rd_T59 x4_2 x8_2).f0) == ((rd_T39 l0 x6_1).f1)) = false := beq_eq_false_iff_ne.mpr c19
                          have c19b1 : (((rd_T59 x4_2 x8_2).f0) != ((rd_T39 l0 x6_1).f1)) = true := bne_iff_ne.mpr c19
                          have H' := Aside0.mk H
                          clear H
                          obtain ⟨Ao28, co28, eo28⟩ := Kd.R_slice HO_4.out
                          subst eo28
                          have p182 : 0 ≤ (x8_2 : Int) := of_decide_eq_true (by first | (with_reducible assumption) | assumption)
                          have q182 : x8_2 < (x4_2.length : Int) := of_decide_eq_true (by first | (with_reducible assumption) | assumption)
                          obtain ⟨ad182, e182, hx182_0, hx182_1, hx182_2, hx182_3, hx182_4, hx182_5, hx182_6, hx182_7⟩ := at_T59 (Kd.R_reads' HO_4.out).2.2 x8_2 p182 q182
                          cases e182
                          replace p182 := eq_true p182
                          replace q182 := eq_true q182
                          have hcz29_0 : wr.cell? ⟨gb178, 0, none⟩ = some (.int .i64 ((rd_T39 l0 x6_1).f0)) := (blk_cell BK178.out 0).trans rfl
                          have hcz29_1 : wr.cell? ⟨gb178, 1, none⟩ = some (.int .i64 ((rd_T39 l0 x6_1).f1)) := (blk_cell BK178.out 1).trans rfl
                          have hcz29_2 : wr.cell? ⟨gb178, 2, none⟩ = some (.bool ((rd_T39 l0 x6_1).f2)) := (blk_cell BK178.out 2).trans rfl
                          have hcz29_3 : wr.cell? ⟨gb178, 3, none⟩ = some (.int .i64 ((rd_T39 l0 x6_1).f3)) := (blk_cell BK178.out 3).trans rfl
                          have hcz29_4 : wr.cell? ⟨gb178, 4, none⟩ = some (.int .i64 ((rd_T39 l0 x6_1).f4)) := (blk_cell BK178.out 4).trans rfl
                          have hcz29_5 : wr.cell? ⟨gb178, 5, none⟩ = some (.bool ((rd_T39 l0 x6_1).f5)) := (blk_cell BK178.out 5).trans rfl
                          have hfz29_0 := blk_frozen BK178.out 0
                          have hfz29_1 := blk_frozen BK178.out 1
                          have hfz29_2 := blk_frozen BK178.out 2
                          have hfz29_3 := blk_frozen BK178.out 3
                          have hfz29_4 := blk_frozen BK178.out 4
                          have hfz29_5 := blk_frozen BK178.out 5
                          go_wp2
                          repeat (go_quiet (fail); try go_wp2)
                          go_roundg k2
                          case measure => have := HK1.out; have := HK2.out; omega
                          case rel => exact ⟨(x4_2), (wrap64 (x8_2 + 1)), (by first | rfl | (simp; done) | (simp [*]; done)), H', ⟨by have := HK1.out; have := HK2.out; omega⟩, ⟨by (with_reducible repeat (first | apply Kd.R_alloc | apply Kd.R_drewN | apply Kd.R_drew)); exact HO_4.out⟩, ⟨by (with_reducible repeat (first | refine blk_drewN ?_ _ | refine blk_drew ?_ | refine blk_alloc ?_ _)); exact BK178.out⟩, ⟨by repeat (first | (with_reducible first | exact HB.out | apply below_alloc | apply pw_below_drewN | apply below_drew1 | refine below_set ?_ GE178.out) | exact HB.out)⟩⟩
                      · rw [if_neg c18] at H
                        exact absurd H (by simp)
                    · rw [if_neg c17] at H
                      have c17b0 : decide (x8_2 < (x4_2.length : Int)) = false := decide_eq_false c17
                      clear c17
                      have H' := Aside0.mk H
                      clear H
                      obtain ⟨Ao30, co30, eo30⟩ := Kd.R_slice HO_4.out
                      subst eo30
                      go_wp2
                      repeat (go_quiet (fail); try go_wp2)
                      go_roundg k2
                      case measure => have := HK1.out; have := HK2.out; omega
                      case rel => exact ⟨(x4_2), (x5_1), (wrap64 (x6_1 + 1)), (by first | rfl | (simp; done) | (simp [*]; done)), (by first | rfl | (simp; done) | (simp [*]; done)), H', ⟨by have := HK1.out; have := HK2.out; omega⟩, ⟨by (with_reducible repeat (first | apply Kd.R_alloc | apply Kd.R_drewN | apply Kd.R_drew)); exact HO_4.out⟩, ⟨by repeat (first | (with_reducible first | exact HB.out | apply below_alloc | apply pw_below_drewN | apply below_drew1 | refine below_set ?_ GE178.out) | exact HB.out)⟩⟩
          · rw [if_neg c6] at H
            exact absurd H (by simp)
        · rw [if_neg c5] at H
          have c5b0 : decide (x6_1 < (l0.length : Int)) = false := decide_eq_false c5
          clear c5
          simp only [Option.some.injEq, Prod.mk.injEq] at H
          obtain ⟨rfl, rfl⟩ := H
          go_wp2
          repeat (go_quiet (fail); try go_wp2)
          go_ret2
          exact ⟨_, by first | rfl | (simp [errW_none, errW_some] <;> rfl) | (simp [*, errW_none, errW_some] <;> rfl), by (with_reducible repeat (first | apply Kd.R_alloc | apply Kd.R_drewN | apply Kd.R_drew)); exact HO_4.out, by repeat (first | (with_reducible first | exact HB.out | apply below_alloc | apply pw_below_drewN | apply below_drew1) | exact HB.out)⟩
  · replace c3 := Bool.eq_false_iff.mpr c3
    subst c3
    have H1 : (some (([] : List (S59)), 1)) = some (r1, r2) := by rw [if_neg (show ¬ (false = true) by decide)] at H; exact H
    clear H
    have H := H1
    clear H1
    simp only [Option.some.injEq, Prod.mk.injEq] at H
    obtain ⟨rfl, rfl⟩ := H
    go_enter Try.func33, Try.ntmps33
    go_wp2_with (first | (go_at_call 40; (with_reducible refine (tegularef45_Valid.calls _ _ l0 false _ ?side1 ?side2 A2.out).mono ?_); (case side1 => repeat (first | exact HR0.out | (with_reducible refine Kd.C_alloc ?_ _) | (with_reducible refine Kd.C_drewN ?_ _) | (with_reducible refine Kd.C_drew ?_))); (case side2 => exact HC0.out); rintro e w31 ⟨rfl, hb⟩; have n0_ := Aside0.mk (below_step (by repeat (first | (with_reducible first | exact HB.out | apply below_alloc | apply pw_below_drewN | apply below_drew1) | exact HB.out)) hb); clear HB; have HB := n0_; clear n0_; (try clear hb); (try clear hb2); (try clear hk); (try clear hi)))
    repeat (go_quiet (first | (go_at_call 40; (with_reducible refine (tegularef45_Valid.calls _ _ l0 false _ ?side1 ?side2 A2.out).mono ?_); (case side1 => repeat (first | exact HR0.out | (with_reducible refine Kd.C_alloc ?_ _) | (with_reducible refine Kd.C_drewN ?_ _) | (with_reducible refine Kd.C_drew ?_))); (case side2 => exact HC0.out); rintro e w31 ⟨rfl, hb⟩; have n0_ := Aside0.mk (below_step (by repeat (first | (with_reducible first | exact HB.out | apply below_alloc | apply pw_below_drewN | apply below_drew1) | exact HB.out)) hb); clear HB; have HB := n0_; clear n0_; (try clear hb); (try clear hb2); (try clear hk); (try clear hi))); try go_wp2_with (first | (go_at_call 40; (with_reducible refine (tegularef45_Valid.calls _ _ l0 false _ ?side1 ?side2 A2.out).mono ?_); (case side1 => repeat (first | exact HR0.out | (with_reducible refine Kd.C_alloc ?_ _) | (with_reducible refine Kd.C_drewN ?_ _) | (with_reducible refine Kd.C_drew ?_))); (case side2 => exact HC0.out); rintro e w31 ⟨rfl, hb⟩; have n0_ := Aside0.mk (below_step (by repeat (first | (with_reducible first | exact HB.out | apply below_alloc | apply pw_below_drewN | apply below_drew1) | exact HB.out)) hb); clear HB; have HB := n0_; clear n0_; (try clear hb); (try clear hb2); (try clear hk); (try clear hi))))
    go_ret2
    exact ⟨_, by first | rfl | (simp [errW_none, errW_some] <;> rfl) | (simp [*, errW_none, errW_some] <;> rfl), by first | exact Kd.R_nil _ _ _ _ _ | exact Kd.N_nil _ _ _ _ _ | exact Kd.V_nil _ _ _ _ _ | exact Kd.Q_nil _ _ _ _ _ | exact Kd.S_nil _ _ _ _ _, by repeat (first | (with_reducible first | exact HB.out | apply below_alloc | apply pw_below_drewN | apply below_drew1) | exact HB.out)⟩

end Go.Proofs.Ytidghmgaaenihaa.Q

/-! part ROps -/
namespace Go.Proofs.Ytidghmgaaenihaa.Q
open Go.RowKit Go.Proofs.YtidghmgaaenihaaW.PrintWords Go.Proofs.YtidghmgaaenihaaW.PrintLast Go.Proofs.YtidghmgaaenihaaW.PrintMore
set_option linter.unusedVariables false
set_option linter.unusedSimpArgs false

def to59 (o : S60) : S59 := ⟨o.f0, o.f1, o.f2, o.f3, o.f4, o.f5, o.f6, o.f7⟩
def updS (id v x : Int) (o : S59) : S59 := if o.f0 = id then { o with f2 := v, f7 := x } else o
def updFrom (id v x : Int) (L : List S59) (y : Nat) : List S59 := L.take y ++ (L.drop y).map (updS id v x)
theorem updFrom_end (id v x : Int) (L : List S59) : updFrom id v x L L.length = L := by simp [updFrom]
theorem updFrom_skip {id v x : Int} {L : List S59} {y : Nat} (hy : y < L.length) (h : L[y].f0 ≠ id) : updFrom id v x L y = updFrom id v x L (y + 1) := by
  unfold updFrom
  rw [List.drop_eq_getElem_cons hy, List.map_cons, show updS id v x L[y] = L[y] from if_neg h, show L.take (y + 1) = L.take y ++ [L[y]] from List.take_succ_eq_append_getElem hy, List.append_assoc]
  rfl
theorem updFrom_hit {id v x : Int} {L : List S59} {y : Nat} (hy : y < L.length) (h : L[y].f0 = id) : updFrom id v x L y = updFrom id v x (L.set y { L[y] with f2 := v, f7 := x }) (y + 1) := by
  unfold updFrom
  rw [List.drop_eq_getElem_cons hy, List.map_cons, updS, if_pos h, List.take_succ_eq_append_getElem (by simpa using hy), List.take_set_of_le (Nat.le_refl y), List.drop_set_of_lt (by omega)]
  simp
theorem rd59_at {l : List S59} {y : Nat} (h : y < l.length) : rd_T59 l (y : Int) = l[y] := by
  simp [rd_T59, List.getD_eq_getElem?_getD, h]
theorem ops_l1 (l : List S39) (e : S39) (era : Int) (x : Nat) (hx : x < l.length) (hsz : l.length ≤ 1000000) (r : List S59 × Int) : ∀ (d y : Nat) (L : List S59), L.length - y = d → y ≤ L.length → L.length ≤ 1000000 →
    (∃ k, tegularef45_Ops.l0 k l (updFrom e.f1 e.f4 x L y) era ((x + 1 : Nat) : Int) = some r) → ∃ k, tegularef45_Ops.l1 k l L era x y e.f0 e.f1 e.f2 e.f3 e.f4 e.f5 = some r
  | 0, y, L, hd, hy, hL, ⟨k, hk⟩ => by
    obtain rfl : y = L.length := by omega
    rw [updFrom_end] at hk
    exact ⟨k + 1, by rw [tegularef45_Ops.l1, if_neg (by omega), wrap_succ (by omega) (by omega)]; exact hk⟩
  | d + 1, y, L, hd, hy, hL, h => by
    have hyl : y < L.length := by omega
    by_cases hm : L[y].f0 = e.f1
    · rw [updFrom_hit hyl hm] at h
      obtain ⟨k, hk⟩ := ops_l1 l e era x hx hsz r d (y + 1) _ (by rw [List.length_set]; omega) (by rw [List.length_set]; omega) (by rw [List.length_set]; omega) h
      refine ⟨k + 1, ?_⟩
      rw [tegularef45_Ops.l1, if_pos (by omega), if_pos (by omega), rd59_at hyl, if_pos hm, Option.bind_some, wrap_succ (by omega) (by omega), Int.toNat_natCast, List.set_set, rd59_at (by simpa using hyl), List.getElem_set_self]
      exact hk
    · rw [updFrom_skip hyl hm] at h
      obtain ⟨k, hk⟩ := ops_l1 l e era x hx hsz r d (y + 1) L (by omega) (by omega) hL h
      refine ⟨k + 1, ?_⟩
      rw [tegularef45_Ops.l1, if_pos (by omega), if_pos (by omega), rd59_at hyl, if_neg hm, wrap_succ (by omega) (by omega)]
      exact hk
theorem upd_set {ops : List S60} (hnd : ops.Pairwise (fun a b => a.f0 ≠ b.f0)) {j : Nat} (hj : j < ops.length) (e : S39) (x : Int) (h : (opAt ops j).f0 = e.f1) :
    updFrom e.f1 e.f4 x (ops.map to59) 0 = (ops.set j (doneOp (opAt ops j) e x)).map to59 := by
  unfold updFrom
  rw [List.take_zero, List.drop_zero, List.nil_append]
  apply List.ext_getElem
  · simp
  · intro i h1 h2
    simp only [List.length_map, List.length_set] at h1 h2
    rw [List.getElem_map, List.getElem_map, List.getElem_map, List.getElem_set]
    split
    · rename_i hij
      subst hij
      rw [opAt_get hj] at h ⊢
      rw [updS, if_pos (show (to59 ops[j]).f0 = e.f1 from h)]
      rfl
    · rename_i hne
      rw [updS, if_neg]
      intro he
      rw [opAt_get hj] at h
      rcases Nat.lt_or_gt_of_ne hne with hlt | hgt
      · exact List.pairwise_iff_getElem.1 hnd j i hj h1 hlt (h.trans he.symm)
      · exact List.pairwise_iff_getElem.1 hnd i j h1 hj hgt (he.trans h.symm)
theorem ops_l0 (l : List S39) (hsz : l.length ≤ 1000000) (S : List S60 × Int) (hS : parseP l = some S) : ∀ (d x : Nat), l.length - x = d → x ≤ l.length → ∀ s, ptake l x = some s →
    ∃ k, tegularef45_Ops.l0 k l (s.1.map to59) s.2 x = some (S.1.map to59, 0)
  | 0, x, hd, hx, s, hs => by
    obtain rfl : x = l.length := by omega
    have : some s = some S := hs.symm.trans hS
    cases this
    exact ⟨1, by rw [tegularef45_Ops.l0, if_neg (by omega)]⟩
  | d + 1, x, hd, hx, s, hs => by
    have hxl : x < l.length := by omega
    have hI := ptake_inv l x hs
    cases hp : pstep l x (rd_T39 l x) s with
    | none => rw [parse_none l x hxl hs hp] at hS; cases hS
    | some s' =>
      obtain ⟨k, hk⟩ := ops_l0 l hsz S hS d (x + 1) (by omega) (by omega) s' (ptake_succ l x hs hp)
      generalize he : rd_T39 l (x : Int) = e at hp
      obtain ⟨ops, era⟩ := s
      have hera := hI.era
      have hlen := hI.len
      simp only at hera hlen hk ⊢
      unfold pstep at hp
      split at hp
      · rename_i h1
        split at hp
        · cases hp
        · split at hp
          · cases hp
            refine ⟨k + 1, ?_⟩
            rw [tegularef45_Ops.l0, if_pos (by omega), if_pos (by omega), he, if_neg (by omega), if_pos h1, if_pos (by rw [List.length_map]; omega), wrap_succ (by omega) (by omega)]
            rw [List.map_append] at hk
            exact hk
          · cases hp
      · rename_i h1
        split at hp
        · rename_i h2
          split at hp
          · cases hp
          · rename_i j hj
            obtain ⟨j1, j2, j3⟩ := at?_some hj
            split at hp
            · cases hp
            · split at hp
              · split at hp
                · cases hp
                  simp only at hk
                  rw [← upd_set hI.nodup j1 e x j2] at hk
                  obtain ⟨k2, hk2⟩ := ops_l1 l e era x hxl hsz _ _ 0 (ops.map to59) rfl (by omega) (by rw [List.length_map]; omega) ⟨k, hk⟩
                  refine ⟨k2 + 1, ?_⟩
                  rw [tegularef45_Ops.l0, if_pos (by omega), if_pos (by omega), he, if_neg (by omega), if_neg h1]
                  exact hk2
                · cases hp
              · cases hp
        · split at hp
          · rename_i h3
            split at hp
            · cases hp
              refine ⟨k + 1, ?_⟩
              rw [tegularef45_Ops.l0, if_pos (by omega), if_pos (by omega), he, if_pos h3, wrap_succ (by omega) (by omega), wrap_succ (by omega) (by omega)]
              exact hk
            · cases hp
          · cases hp
theorem ops33_f (l : List S39) (hsz : l.length ≤ 1000000) : ∃ k, tegularef45_Ops.f k l = some ((opsP l).1.map to59, (opsP l).2) := by
  unfold opsP
  cases hp : parseP l with
  | none => exact ⟨0, by rw [tegularef45_Ops.f, tegularef45_Valid.f, if_pos hsz, valid_parse, hp]; rfl⟩
  | some S =>
    obtain ⟨k, hk⟩ := ops_l0 l hsz S hp l.length 0 (by omega) (by omega) _ rfl
    exact ⟨k, by rw [tegularef45_Ops.f, tegularef45_Valid.f, if_pos hsz, valid_parse, hp]; exact hk⟩
end Go.Proofs.Ytidghmgaaenihaa.Q

/-! part HRange -/
namespace Go.Proofs.Ytidghmgaaenihaa.Q
open Go.RowKit Go.Proofs.YtidghmgaaenihaaW.PrintWords Go.Proofs.YtidghmgaaenihaaW.PrintLast Go.Proofs.YtidghmgaaenihaaW.PrintMore
set_option linter.unusedVariables false
set_option linter.unusedSimpArgs false

/-- The entries' stamps are their places. -/
def StampAt (es : List MapEntry) : Prop := ∀ (j : Nat) (e : MapEntry), es[j]? = some e → e.born = j
/-- A range under way: 'vis' are the places of the entries that came. -/
structure MapIt (w : World) (B r : Nat) (es : List MapEntry) (vis : List Nat) : Prop where
  blk : w.heap[B]? = some (.map es.toArray es.length)
  it : ∃ c0, es.length ≤ c0 ∧ w.heap[r]? = some (.mapIter (some B) es.length vis.toArray c0)
  st : StampAt es
  nd : vis.Nodup
  lt : ∀ j ∈ vis, j < es.length
section
variable {P : Program} {w w1 : World} {B r : Nat} {es : List MapEntry} {vis : List Nat}
theorem MapIt.ne (h : MapIt w B r es vis) : r ≠ B := by
  obtain ⟨c0, _, hr⟩ := h.it
  intro e; rw [e, h.blk] at hr; cases hr
theorem MapIt.below (h : MapIt w B r es vis) (hb : Below w.heap.size w w1) : MapIt w1 B r es vis := by
  obtain ⟨c0, hc, hr⟩ := h.it
  exact ⟨blk_old h.blk hb, ⟨c0, hc, blk_old hr hb⟩, h.st, h.nd, h.lt⟩
theorem MapIt.grown (h : MapIt w B r es vis) {row : Option Nat} (hg : w.grownBy w1 row) (h1 : some B ≠ row) (h2 : some r ≠ row) : MapIt w1 B r es vis := by
  obtain ⟨c0, hc, hr⟩ := h.it
  exact ⟨blk_grown h.blk hg h1, ⟨c0, hc, blk_grown hr hg h2⟩, h.st, h.nd, h.lt⟩
theorem mem_stamp {es : List MapEntry} (hs : StampAt es) {e : MapEntry} (he : e ∈ es) : es[e.born]? = some e := by
  obtain ⟨j, hj⟩ := List.getElem?_of_mem he
  rw [hs j e hj]; exact hj
theorem stamp_nodup {es : List MapEntry} (hs : StampAt es) : (es.map (·.born)).Nodup := by
  have : es.map (·.born) = List.range es.length := by
    apply List.ext_getElem
    · simp
    · intro i h1 h2
      simp only [List.getElem_map, List.getElem_range]
      exact hs i _ (List.getElem?_eq_getElem (by simpa using h1))
  rw [this]; exact List.nodup_range
variable {ops : Array Oper} {rest : List Oper} {o : Oper} {a : Act} {Q : Exit → Act → World → Prop}
/-- 'range m'. -/
theorem at_range_map (hgd : o.guard = none) (m : Operand) (t k e : TypeId) (hop : o.op = Op.range t m) (ht : P.underlying t = some (.map k e)) (hm : a.eval m = .map (some B)) (hb : w.heap[B]? = some (.map es.toArray es.length)) (hs : StampAt es)
    (hK : ∀ w1, MapIt w1 B w.heap.size es [] → Below w.heap.size w w1 → w1.heap.size = w.heap.size + 1 → wpList P ops Q rest (a.put o.dst (.pointer (some ⟨w.heap.size, 0, none⟩))) w1) :
    wpList P ops Q (o :: rest) a w := by
  refine wpList_plain hgd fun K' hK' => ?_
  unfold Oper.wp
  simp [execOp, hop, hm, run_range_map w t k e B es.toArray es.length ht hb, Result.andThen]
  refine hK' _ _ (hK _ ⟨blk_old hb (below_alloc (Below.refl _ _) _), ⟨es.length, Nat.le_refl _, blk_new w _⟩, hs, List.nodup_nil, fun j hj => by cases hj⟩ (below_alloc (Below.refl _ _) _) (by simp))
/-- 'next'. -/
theorem at_next_map (hgd : o.guard = none) (it : Operand) (hop : o.op = Op.next it false) (hit : a.eval it = .pointer (some ⟨r, 0, none⟩)) (h : MapIt w B r es vis)
    (hDone : (∀ j, j < es.length → j ∈ vis) → wpList P ops Q rest (a.put o.dst (.tuple #[.bool false])) w)
    (hMore : ∀ (j : Nat) (e : MapEntry) (w1 : World), j ∉ vis → es[j]? = some e → MapIt w1 B r es (vis ++ [j]) → (∀ k, k ≠ r → w1.heap[k]? = w.heap[k]?) → w1.heap.size = w.heap.size → w.grownBy w1 (some r) →
      (Instr.entry (.pointer (some ⟨r, 0, none⟩))).run P w1 = .ok (.tuple #[e.key, e.val]) w1 → wpList P ops Q rest (a.put o.dst (.tuple #[.bool true, e.key, e.val])) w1) :
    wpList P ops Q (o :: rest) a w := by
  refine wpList_plain hgd fun K' hK' => ?_
  unfold Oper.wp
  have hne := h.ne
  obtain ⟨c0, hc, hr⟩ := h.it
  have hold : ∀ x ∈ es.toArray.toList, x.born < es.length := by
    intro x hx
    have := mem_stamp h.st (show x ∈ es by simpa using hx)
    exact (List.getElem?_eq_some_iff.1 this).1
  have hrl := blk_lt hr
  rcases run_next_at (P := P) w o.type r B es.length c0 vis.toArray es.toArray es.length hr h.blk hold hc with ⟨h0, hrun⟩ | ⟨e, he, w1, hal, hrun⟩
  · simp [execOp, hop, hit, hrun, Result.andThen]
    refine hK' _ _ (hDone fun j hj => ?_)
    have hsz : ∀ x ∈ es, x.born ∈ vis := by
      intro x hx
      unfold leftOf at h0
      have := Array.filter_eq_empty_iff.1 (Array.eq_empty_of_size_eq_zero h0) x (by simpa using hx)
      simpa using this
    have := hsz _ (List.getElem_mem hj)
    rwa [h.st j _ (List.getElem?_eq_getElem hj)] at this
  · have hme : e ∈ es ∧ e.born ∉ vis := by
      unfold leftOf at he
      simpa using he
    have hat := mem_stamp h.st hme.1
    have hrw : w1.heap[r]? = some (.mapIter (some B) es.length vis.toArray c0) := by rcases hal with rfl | rfl <;> exact hr
    have hbw : w1.heap[B]? = some (.map es.toArray es.length) := by rcases hal with rfl | rfl <;> exact h.blk
    have hsw : w1.heap.size = w.heap.size := by rcases hal with rfl | rfl <;> rfl
    have hpush : vis.toArray.push e.born = (vis ++ [e.born]).toArray := by simp
    rw [hpush] at hrun
    have hr2 : (ChangeMaps.setBlock w1 r (.mapIter (some B) es.length (vis ++ [e.born]).toArray es.length)).heap[r]? = some (.mapIter (some B) es.length (vis ++ [e.born]).toArray es.length) := by
      rw [heap_setBlock _ (by rw [hsw]; exact hrl), if_pos rfl]
    have hb2 : (ChangeMaps.setBlock w1 r (.mapIter (some B) es.length (vis ++ [e.born]).toArray es.length)).heap[B]? = some (.map es.toArray es.length) := by
      rw [heap_setBlock _ (by rw [hsw]; exact hrl), if_neg (Ne.symm hne)]; exact hbw
    simp [execOp, hop, hit, hrun, Result.andThen]
    have hlt : e.born < es.length := (List.getElem?_eq_some_iff.1 hat).1
    have hkeep : ∀ k, k ≠ r → (ChangeMaps.setBlock w1 r (.mapIter (some B) es.length (vis ++ [e.born]).toArray es.length)).heap[k]? = w.heap[k]? := by
      intro k hk
      rw [heap_setBlock _ (by rw [hsw]; exact hrl), if_neg hk]
      rcases hal with rfl | rfl <;> rfl
    refine hK' _ _ (hMore e.born e _ hme.2 hat ⟨hb2, ⟨es.length, Nat.le_refl _, hr2⟩, h.st, ?_, ?_⟩ hkeep ?_ ?_ ?_)
    · rw [List.nodup_append]
      exact ⟨h.nd, by simp, fun a ha b hb => by simp at hb; subst hb; intro q; subst q; exact hme.2 ha⟩
    · intro j hj
      rcases List.mem_append.1 hj with hj | hj
      · exact h.lt j hj
      · simp at hj; omega
    · rw [size_setBlock]; exact hsw
    · refine ⟨?_, ?_, ?_, by rw [size_setBlock, hsw]; exact Nat.le_refl _, fun i hi hn => hkeep i (fun q => hn (by rw [q]))⟩ <;> (rcases hal with rfl | rfl <;> (try rfl))
    · exact run_entry_at _ r B es.length vis.toArray es.toArray es.length e (by rw [hpush]; exact hr2) hb2 (by simpa using hme.1) (by simpa using stamp_nodup h.st)
end
end Go.Proofs.Ytidghmgaaenihaa.Q

/-! part HPend -/
namespace Go.Proofs.Ytidghmgaaenihaa.Q
open Go.RowKit Go.Proofs.YtidghmgaaenihaaW.PrintWords Go.Proofs.YtidghmgaaenihaaW.PrintLast Go.Proofs.YtidghmgaaenihaaW.PrintMore
set_option linter.unusedVariables false
set_option linter.unusedSimpArgs false

/-- What slices.Sort does to a row of numbers of the call's own. -/
def SortC : Prop := ∀ (w : World) (base : Nat) (v : Value) (xs : List Int), Kd.R (Kd.int .i64) 3 w base (fun _ => True) v xs → xs.length ≤ 1000000 →
  Calls Try.prog 78 #[v] w fun e w' => e = .returned (.tuple #[]) ∧ Kd.R (Kd.int .i64) 3 w' base (fun _ => True) v (xs.mergeSort (fun x y => decide (x ≤ y))) ∧ Below base w w'
def pendB (cuts : Int) (o : S60) : Bool := decide (o.f7 < 0) && o.f5 == cuts
def pendOut (cuts : Int) (ops : List S60) (vis : List Nat) : List Int := (vis.filter (fun j => pendB cuts (opAt ops j))).map (fun j => (opAt ops j).f0)
def pendP (l : List S39) : List Int := match parseP l with
  | none => []
  | some s => ((s.1.filter (pendB (cutsN l))).map (·.f0)).mergeSort (fun x y => decide (x ≤ y))
theorem entOf_len {ops : List S60} {bs : List Nat} (hl : bs.length = ops.length) : (entOf ops bs).length = ops.length := by
  unfold entOf
  simp [hl]
theorem entOf_stamp {ops : List S60} {bs : List Nat} (hl : bs.length = ops.length) : StampAt (entOf ops bs) := by
  intro j e h
  unfold entOf at h
  obtain ⟨hj, he⟩ := List.getElem?_eq_some_iff.1 h
  simp only [List.getElem_zipWith, List.getElem_range] at he
  subst he; rfl
theorem run_next_nil_at {P : Program} (w : World) (ty : TypeId) (r : Nat) (hr : w.heap[r]? = some (.mapIter none 0 #[] 0)) : (Instr.next (.pointer (some ⟨r, 0, none⟩)) false ty).run P w = .ok (.tuple #[.bool false]) w := by
  simp only [Instr.next, getObj, Sem.run_bind, Sem.run, hr, Result.andThen]
  rfl
theorem all_perm {n : Nat} {vis : List Nat} (hnd : vis.Nodup) (hlt : ∀ j ∈ vis, j < n) (hall : ∀ j, j < n → j ∈ vis) : vis.Perm (List.range n) :=
  (List.perm_ext_iff_of_nodup hnd List.nodup_range).2 (fun a => ⟨fun h => List.mem_range.2 (hlt a h), fun h => hall a (List.mem_range.1 h)⟩)
theorem sort_perm {a b : List Int} (h : a.Perm b) : a.mergeSort (fun x y => decide (x ≤ y)) = b.mergeSort (fun x y => decide (x ≤ y)) := by
  have tr : ∀ (x y z : Int), decide (x ≤ y) = true → decide (y ≤ z) = true → decide (x ≤ z) = true := by intro x y z; simp; omega
  have tot : ∀ (x y : Int), (decide (x ≤ y) || decide (y ≤ x)) = true := by intro x y; simp; omega
  refine List.Perm.eq_of_pairwise ?_ (List.pairwise_mergeSort tr tot a) (List.pairwise_mergeSort tr tot b) (((List.mergeSort_perm a _).trans h).trans (List.mergeSort_perm b _).symm)
  intro x y _ _ h1 h2
  simp at h1 h2
  omega
theorem pendOut_all {cuts : Int} {ops : List S60} {vis : List Nat} (h : vis.Perm (List.range ops.length)) : (pendOut cuts ops vis).Perm ((ops.filter (pendB cuts)).map (·.f0)) := by
  unfold pendOut
  refine ((h.filter _).map _).trans ?_
  have e : ops = (List.range ops.length).map (opAt ops) := by
    apply List.ext_getElem
    · simp
    · intro i h1 h2
      simp [opAt, List.getD_eq_getElem?_getD, h1]
  conv => rhs; rw [e]
  rw [List.filter_map, List.map_map]
  rfl
theorem pendOut_snoc (cuts : Int) (ops : List S60) (vis : List Nat) (j : Nat) : pendOut cuts ops (vis ++ [j]) = if pendB cuts (opAt ops j) = true then pendOut cuts ops vis ++ [(opAt ops j).f0] else pendOut cuts ops vis := by
  unfold pendOut
  rw [List.filter_append, List.map_append, List.filter_cons]
  split <;> simp
def visN (w : World) (r : Nat) : Nat := match w.heap[r]? with
  | some (.mapIter _ _ seen _) => seen.size
  | _ => 0
theorem MapIt.visN {w : World} {B r : Nat} {es : List MapEntry} {vis : List Nat} (h : MapIt w B r es vis) : visN w r = vis.length := by
  obtain ⟨c0, _, hr⟩ := h.it
  unfold Q.visN
  rw [hr]; simp
theorem MapIt.vlen {w : World} {B r : Nat} {es : List MapEntry} {vis : List Nat} (h : MapIt w B r es vis) : vis.length ≤ es.length := by
  have := h.nd.length_le_of_subset (l₂ := List.range es.length) (fun j hj => List.mem_range.2 (h.lt j hj))
  simpa using this
end Go.Proofs.Ytidghmgaaenihaa.Q

/-! part HPend2 -/
namespace Go.Proofs.Ytidghmgaaenihaa.Q
open Go.RowKit Go.Proofs.YtidghmgaaenihaaW.PrintWords Go.Proofs.YtidghmgaaenihaaW.PrintLast Go.Proofs.YtidghmgaaenihaaW.PrintMore
set_option linter.unusedVariables false
set_option linter.unusedSimpArgs false
def PendPost (r : List Int) (w : World) (e : Ending) (w' : World) : Prop :=
  ∃ v, e = .returned v ∧ Kd.R (Kd.int .i64) 3 w' w.heap.size (fun _ => True) v r ∧ Below w.heap.size w w'
set_option maxHeartbeats 4000000 in
set_option maxRecDepth 100000 in
theorem pend_any (hsort : SortC) (A : Option Addr) (c : Nat) (l : List S39) (w : World) (hr : Kd.C k39 w A l.length l) (hc : l.length ≤ c) (hsz : l.length ≤ 1000000) :
    Calls Try.prog 47 #[.slice A l.length c] w (PendPost (pendP l) w) := by
  have HR := Aside0.mk hr
  clear hr
  have HSo := Aside0.mk hsort
  clear hsort
  go_enter Try.func47, Try.ntmps47
  go_wp2_with fail
  (with_reducible refine (parse_any A c l _ HR.out hc hsz).mono ?_)
  rintro e w1 ⟨hB, hP⟩
  have HB := Aside0.mk hB
  clear hB
  cases hp : parseP l with
  | none =>
    rw [hp] at hP
    simp only at hP
    subst hP
    have HPP := Aside0.mk (show pendP l = [] by unfold pendP; rw [hp])
    clear hp
    go_wp2
    go_loopw [6, 20] (fun v6 v20 wr => ∃ x n : Int, 0 ≤ x ∧ x ≤ l.length ∧ 0 ≤ n ∧ n ≤ x ∧ v20 = .int .i64 x ∧ v6 = .int .i64 n ∧ Aside0 (Below w1.heap.size w1 wr))
      (fun _ v20 _ => l.length - (intOf v20).toNat)
    case atStart => exact ⟨0, 0, by omega, by omega, by omega, by omega, rfl, rfl, ⟨Below.refl _ _⟩⟩
    case round =>
      obtain ⟨x, n, hx0, hx1, hn0, hn1, rfl, rfl, HW⟩ := hrel
      by_cases hlt : x < l.length
      · obtain ⟨ad, eA, s0, s1, s2, s3, s4, s5⟩ := at_T39 (Kd.C_below HR.out (below_then HB.out (below_size HB.out) HW.out)) x hx0 hlt
        subst eA
        obtain ⟨e, HE⟩ : ∃ e, Aside0 (rd_T39 l x = e) := ⟨_, ⟨rfl⟩⟩
        rw [HE.out] at s0 s1 s2 s3 s4 s5
        obtain ⟨e0, e1, e2, e3, e4, e5⟩ := e
        simp only at s0 s1 s2 s3 s4 s5
        cases h3 : (e0 == 3) with
        | true =>
          go_wp2
          go_roundw
          case rel => exact ⟨x + 1, n + 1, by omega, by omega, by omega, by omega, rfl, rfl, ⟨below_alloc HW.out _⟩⟩
          case measure => simp [intOf]; omega
        | false =>
          go_wp2
          go_roundw
          case rel => exact ⟨x + 1, n, by omega, by omega, by omega, by omega, rfl, rfl, ⟨below_alloc HW.out _⟩⟩
          case measure => simp [intOf]; omega
      · obtain rfl : x = l.length := by omega
        have hrg := run_range_nilMap (P := Try.prog) wr 110 3 113 Try.underlying110
        go_wp2
        have HIT := Aside0.mk (blk_new wr (.mapIter none 0 #[] 0))
        have HBW := Aside0.mk (below_alloc (below_then HB.out (below_size HB.out) HW.out) (.mapIter none 0 #[] 0))
        generalize wr.heap.size = r at HIT ⊢
        generalize wr.alloc (.mapIter none 0 #[] 0) = W at HIT HBW ⊢
        clear HW hrg
        go_loopw [9] (fun v9 wz => v9 = .slice none 0 0 ∧ wz = W) (fun _ _ => 0)
        case atStart => exact ⟨rfl, rfl⟩
        case round =>
          obtain ⟨rfl, rfl⟩ := hrel
          have hnx : ∀ ty, (Instr.next (.pointer (some ⟨r, 0, none⟩)) false ty).run Try.prog wr = .ok (.tuple #[.bool false]) wr := fun ty => run_next_nil_at wr ty r HIT.out
          have HS := Aside0.mk (HSo.out wr w.heap.size (.slice none 0 0) [] (Kd.R_nil _ _ _ _ _) (by simp))
          go_wp2_with (go_at_call 78; (with_reducible refine HS.out.mono ?_); rintro e w2 ⟨rfl, hR, hB2⟩; have HR2 := Aside0.mk hR; have HB2 := Aside0.mk hB2; clear hR hB2)
          go_ret
          refine ⟨_, rfl, ?_, HBW.out.trans HB2.out⟩
          have h9 := HR2.out
          rw [List.mergeSort_nil] at h9
          rw [HPP.out]
          exact h9
  | some s =>
    rw [hp] at hP
    simp only at hP
    obtain ⟨B, v, bs, rfl, hM, hO⟩ := hP
    obtain ⟨ops, era⟩ := s
    have HI := Aside0.mk (ptake_inv l l.length hp)
    have HPP := Aside0.mk (show pendP l = ((ops.filter (pendB (cutsN l))).map (·.f0)).mergeSort (fun x y => decide (x ≤ y)) by unfold pendP; rw [hp])
    have HM := Aside0.mk hM
    simp only at hM hO
    clear hp hM hO
    go_wp2
    go_loopw [6, 20] (fun v6 v20 wr => ∃ x n : Int, 0 ≤ x ∧ x ≤ l.length ∧ 0 ≤ n ∧ n ≤ x ∧ v20 = .int .i64 x ∧ v6 = .int .i64 n ∧ Aside0 (n = cutsN (l.take x.toNat)) ∧ Aside0 (Below w1.heap.size w1 wr))
      (fun _ v20 _ => l.length - (intOf v20).toNat)
    case atStart => exact ⟨0, 0, by omega, by omega, by omega, by omega, rfl, rfl, ⟨rfl⟩, ⟨Below.refl _ _⟩⟩
    case round =>
      obtain ⟨x, n, hx0, hx1, hn0, hn1, rfl, rfl, HN, HW⟩ := hrel
      by_cases hlt : x < l.length
      · obtain ⟨ad, eA, s0, s1, s2, s3, s4, s5⟩ := at_T39 (Kd.C_below HR.out (below_then HB.out (below_size HB.out) HW.out)) x hx0 hlt
        subst eA
        have HCN := Aside0.mk (cuts_next hx0 hlt)
        obtain ⟨e, HE⟩ : ∃ e, Aside0 (rd_T39 l x = e) := ⟨_, ⟨rfl⟩⟩
        rw [HE.out] at s0 s1 s2 s3 s4 s5 HCN
        obtain ⟨e0, e1, e2, e3, e4, e5⟩ := e
        simp only at s0 s1 s2 s3 s4 s5 HCN
        by_cases h3 : e0 = 3
        · have h3' : (e0 == 3) = true := by simpa using h3
          have HC2 := Aside0.mk (show n + 1 = cutsN (l.take (x + 1).toNat) by rw [HCN.out, if_pos h3, HN.out])
          clear h3
          go_wp2
          go_roundw
          case rel => exact ⟨x + 1, n + 1, by omega, by omega, by omega, by omega, rfl, rfl, HC2, ⟨below_alloc HW.out _⟩⟩
          case measure => simp [intOf]; omega
        · have h3' : (e0 == 3) = false := by simpa using h3
          have HC2 := Aside0.mk (show n = cutsN (l.take (x + 1).toNat) by rw [HCN.out, if_neg h3, HN.out]; omega)
          clear h3
          go_wp2
          go_roundw
          case rel => exact ⟨x + 1, n, by omega, by omega, by omega, by omega, rfl, rfl, HC2, ⟨below_alloc HW.out _⟩⟩
          case measure => simp [intOf]; omega
      · obtain rfl : x = l.length := by omega
        rw [show ((l.length : Int)).toNat = l.length by omega, List.take_length] at HN
        have HM1 := Aside0.mk (HM.out.below HW.out)
        have HB1 := Aside0.mk (below_then HB.out (below_size HB.out) HW.out)
        go_wp2_with (at_range; refine at_range_map rfl _ 110 3 113 rfl Try.underlying110 rfl (by have := HM1.out.blk; rwa [← entOf_len HM1.out.len] at this) (entOf_stamp HM1.out.len) ?_; intro w2 hit hb2 hs2; have HIT := Aside0.mk hit; have HB2 := Aside0.mk hb2; clear hit hb2 hs2)
        have HM2 := Aside0.mk (HM1.out.below HB2.out)
        have HBB := Aside0.mk (below_step HB1.out HB2.out)
        have hbr : w.heap.size ≤ wr.heap.size := HB1.out.size
        have hol : ops.length ≤ 1000000 := by have h1 := HI.out.len; simp only at h1; omega
        clear HM HM1 HB1 HB2 HW HB
        generalize wr.heap.size = r at HIT hbr ⊢
        go_loopw [9] (fun v9 wz => ∃ vis : List Nat, Aside0 (MapIt wz B r (entOf ops bs) vis) ∧ Aside0 (MapOps wz w.heap.size B ops bs) ∧ Aside0 (Kd.R (Kd.int .i64) 3 wz w.heap.size (fun _ => True) v9 (pendOut n ops vis)) ∧ Aside0 (Below w.heap.size w wz))
          (fun _ wz => ops.length - visN wz r)
        case atStart => exact ⟨[], HIT, HM2, ⟨Kd.R_nil _ _ _ _ _⟩, HBB⟩
        case round =>
          clear HIT HM2 HBB
          obtain ⟨vis, HIT, HM, HO, HB⟩ := hrel
          have HVL := Aside0.mk (HIT.out.vlen)
          have HPL := Aside0.mk (show (pendOut n ops vis).length ≤ 1000000 by
            have h1 := HIT.out.vlen
            rw [entOf_len HM.out.len] at h1
            unfold pendOut
            rw [List.length_map]
            exact Nat.le_trans (List.length_filter_le _ _) (by omega))
          go_wp2_with (at_next; refine at_next_map rfl _ rfl rfl HIT.out ?_ ?_)
          · intro hall
            have HALL := Aside0.mk (all_perm HIT.out.nd HIT.out.lt hall)
            rw [entOf_len HM.out.len] at HALL
            clear hall
            have HS := Aside0.mk (HSo.out _ w.heap.size _ _ HO.out HPL.out)
            go_wp2_with (go_at_call 78; (with_reducible refine HS.out.mono ?_); rintro e w4 ⟨rfl, hR, hB4⟩; have HR4 := Aside0.mk hR; have HB4 := Aside0.mk hB4; clear hR hB4)
            go_ret
            refine ⟨_, rfl, ?_, HB.out.trans HB4.out⟩
            have h9 := HR4.out
            rw [sort_perm (pendOut_all HALL.out), HN.out] at h9
            rw [HPP.out]
            exact h9
          · intro j e w3 hj hej hit3 hkeep hs3 hg3 hen
            obtain ⟨b, hjl, hbj, hkey, hval⟩ := entOf_at HM.out.len hej
            obtain ⟨key, val, born⟩ := e
            simp only at hkey hval hen ⊢
            subst hkey hval
            have hrit : ∃ c0, wr.heap[r]? = some (.mapIter (some B) (entOf ops bs).length vis.toArray c0) := by obtain ⟨c0, _, h⟩ := HIT.out.it; exact ⟨c0, h⟩
            have HM3 := Aside0.mk (HM.out.move (w1 := w3) (fun k o hk hor => (hkeep k (fun q => by
              subst q
              obtain ⟨c0, h⟩ := hrit
              rcases hor with q | q
              · exact HIT.out.ne q
              · obtain ⟨i, hi⟩ := List.getElem?_of_mem q
                have h2 := HM.out.cells i _ hi
                rw [h] at h2; cases h2)).trans hk))
            have HR3 := Aside0.mk (Kd.R_mono (Kd.R_move (w1 := w3) (Kd.R_bound HO.out) (fun k hk => hkeep k (fun q => by
              subst q
              obtain ⟨c0, h⟩ := hrit
              obtain ⟨_, _, _, q, _, cells, h2⟩ := hk
              rw [h] at h2; cases h2))) (fun k hk => hk.1))
            have HB3 := Aside0.mk (pw_below_grown HB.out (some r) HB.out.size hg3 (fun k hk => by cases hk; exact hbr))
            have HI3 := Aside0.mk hit3
            have HV3 := Aside0.mk (show ops.length - visN w3 r < ops.length - visN wr r by
              have h1 := hit3.vlen
              rw [entOf_len HM.out.len, List.length_append, List.length_singleton] at h1
              rw [hit3.visN, HIT.out.visN, List.length_append, List.length_singleton]
              omega)
            obtain ⟨o, HOo⟩ : ∃ o, Aside0 (opAt ops j = o) := ⟨_, ⟨rfl⟩⟩
            have hcb := HM3.out.cells _ _ hbj
            have HPS := Aside0.mk (pendOut_snoc n ops vis j)
            rw [HOo.out] at hcb hen HPS ⊢
            obtain ⟨o0, o1, o2, o3, o4, o5, o6, o7⟩ := o
            have b5 : w3.cell? ⟨b, 5, none⟩ = some (.int .i64 o5) := (blk_cell hcb 5).trans rfl
            have b7 : w3.cell? ⟨b, 7, none⟩ = some (.int .i64 o7) := (blk_cell hcb 7).trans rfl
            clear hcb hkeep hs3 hg3 hit3 hej hj hrit hjl
            cases h7 : decide (o7 < 0) with
            | false =>
              have HP2 := Aside0.mk (show pendOut n ops (vis ++ [j]) = pendOut n ops vis by rw [HPS.out]; unfold pendB; simp only; rw [h7]; rfl)
              go_wp2
              go_roundw
              case rel => exact ⟨_, HI3, HM3, by rw [HP2.out]; exact HR3, HB3⟩
              case measure => exact HV3.out
            | true =>
              cases h5 : (o5 == n) with
              | false =>
                have HP2 := Aside0.mk (show pendOut n ops (vis ++ [j]) = pendOut n ops vis by rw [HPS.out]; unfold pendB; simp only; rw [h7, h5]; rfl)
                go_wp2
                go_roundw
                case rel => exact ⟨_, HI3, HM3, by rw [HP2.out]; exact HR3, HB3⟩
                case measure => exact HV3.out
              | true =>
                have HP2 := Aside0.mk (show pendOut n ops (vis ++ [j]) = pendOut n ops vis ++ [o0] by rw [HPS.out]; unfold pendB; simp only; rw [h7, h5]; rfl)
                go_wp2_with (at_builtin; go_loud (refine Kd.R_append (Kd.int .i64) (w0 := w) w.heap.size rfl (.tmp 50) (.tmp 52) 40 3 (.int .i64 0) 8 rfl Try.underlying40 info3 rfl (by decide) (by omega) _ (pendOut n ops vis) o0 [.int .i64 o0] (fun _ => True) (fun _ => False) rfl rfl rfl (fun _ hk => hk.elim) (fun _ _ => trivial) HR3.out HB3.out (below_size HB3.out) (by have := HPL.out; omega) ?_); intro v4 w4 ho hb hg hat; have hty := Kd.R_typed HR3.out; have HI4 := Aside0.mk (HI3.out.grown hg (fun q => by obtain ⟨cells, hc⟩ := hty B q.symm; rw [HI3.out.blk] at hc; cases hc) (fun q => by obtain ⟨cells, hc⟩ := hty r q.symm; obtain ⟨c0, _, h⟩ := HI3.out.it; rw [h] at hc; cases hc)); have HM4 := Aside0.mk (HM3.out.appended HR3.out hg); have HO4 := Aside0.mk ho; have HB4 := Aside0.mk hb; have HV4 := Aside0.mk (show ops.length - visN w4 r < ops.length - visN wr r by rw [HI4.out.visN, ← HI3.out.visN]; exact HV3.out); clear ho hb hg hat hty)
                go_roundw
                case rel => exact ⟨_, HI4, HM4, by rw [HP2.out]; exact HO4, HB4⟩
                case measure => exact HV4.out
end Go.Proofs.Ytidghmgaaenihaa.Q

/-! part Shelf -/
namespace Go.Proofs
open Go.Shelf
def Try.lays189_ren : Go.Shelf.Ren := ⟨fun | 189 => 78 | 125 => 102 | 257 => 101 | 128 => 125 | 129 => 126 | 294 => 116 | 295 => 117 | 296 => 118 | 297 => 119 | 298 => 120 | 299 => 121 | 216 => 122 | 300 => 123 | 301 => 124 | 328 => 132 | 329 => 133 | 330 => 134 | 331 => 135 | 332 => 136 | 215 => 137 | 343 => 140 | n => n, fun | 28 => 40 | 3 => 3 | 46 => 157 | 0 => 0 | 51 => 189 | 53 => 191 | 4 => 4 | 183 => 182 | 182 => 181 | 131 => 186 | 5 => 5 | 9 => 9 | 218 => 195 | 222 => 199 | 228 => 202 | 229 => 203 | n => n, fun | n => n⟩
theorem Try.lays189 : Go.Proofs.Lays.n189 Try.prog Try.lays189_ren := {
  mixed := by kernel_rfl
  f125 := Try.func102.trans (congrArg some (by kernel_rfl))
  f128 := Try.func125.trans (congrArg some (by kernel_rfl))
  f129 := Try.func126.trans (congrArg some (by kernel_rfl))
  f189 := Try.func78.trans (congrArg some (by kernel_rfl))
  f215 := Try.func137.trans (congrArg some (by kernel_rfl))
  f216 := Try.func122.trans (congrArg some (by kernel_rfl))
  f257 := Try.func101.trans (congrArg some (by kernel_rfl))
  f294 := Try.func116.trans (congrArg some (by kernel_rfl))
  f295 := Try.func117.trans (congrArg some (by kernel_rfl))
  f296 := Try.func118.trans (congrArg some (by kernel_rfl))
  f297 := Try.func119.trans (congrArg some (by kernel_rfl))
  f298 := Try.func120.trans (congrArg some (by kernel_rfl))
  f299 := Try.func121.trans (congrArg some (by kernel_rfl))
  f300 := Try.func123.trans (congrArg some (by kernel_rfl))
  f301 := Try.func124.trans (congrArg some (by kernel_rfl))
  f328 := Try.func132.trans (congrArg some (by kernel_rfl))
  f329 := Try.func133.trans (congrArg some (by kernel_rfl))
  f330 := Try.func134.trans (congrArg some (by kernel_rfl))
  f331 := Try.func135.trans (congrArg some (by kernel_rfl))
  f332 := Try.func136.trans (congrArg some (by kernel_rfl))
  f343 := Try.func140.trans (congrArg some (by kernel_rfl))
  t0 := Try.underlying0
  a0 := Try.isAgg0
  z0 := Try.sizeOf0
  v0 := Try.zeroValue0
  t3 := Try.underlying3
  a3 := Try.isAgg3
  z3 := Try.sizeOf3
  v3 := Try.zeroValue3
  t4 := Try.underlying4
  a4 := Try.isAgg4
  z4 := Try.sizeOf4
  v4 := Try.zeroValue4
  t5 := Try.underlying5
  a5 := Try.isAgg5
  z5 := Try.sizeOf5
  v5 := Try.zeroValue5
  t9 := Try.underlying9
  a9 := Try.isAgg9
  z9 := Try.sizeOf9
  v9 := Try.zeroValue9
  t28 := Try.underlying40
  a28 := Try.isAgg40
  z28 := Try.sizeOf40
  v28 := Try.zeroValue40
  t46 := Try.underlying157
  a46 := Try.isAgg157
  z46 := Try.sizeOf157
  v46 := Try.zeroValue157
  t51 := Try.underlying189
  a51 := Try.isAgg189
  z51 := Try.sizeOf189
  v51 := Try.zeroValue189
  t53 := Try.underlying191
  a53 := Try.isAgg191
  z53 := Try.sizeOf191
  v53 := Try.zeroValue191
  t131 := Try.underlying186
  a131 := Try.isAgg186
  z131 := Try.sizeOf186
  v131 := Try.zeroValue186
  t182 := Try.underlying181
  a182 := Try.isAgg181
  z182 := Try.sizeOf181
  v182 := Try.zeroValue181
  t183 := Try.underlying182
  a183 := Try.isAgg182
  z183 := Try.sizeOf182
  v183 := Try.zeroValue182
  t218 := Try.underlying195
  a218 := Try.isAgg195
  z218 := Try.sizeOf195
  v218 := Try.zeroValue195
  t222 := Try.underlying199
  a222 := Try.isAgg199
  z222 := Try.sizeOf199
  v222 := Try.zeroValue199
  t228 := Try.underlying202
  a228 := Try.isAgg202
  z228 := Try.sizeOf202
  v228 := Try.zeroValue202
  t229 := Try.underlying203
  a229 := Try.isAgg203
  z229 := Try.sizeOf203
  v229 := Try.zeroValue203 }
open Go.Sort Go.RowKit in
theorem Try.slices_Sort_int (blk off cap : Nat) (zs : List Int) (w : World) (hH : Holds (Value.int .i64) w blk off zs.toArray) (hblk : blk < w.heap.size) (hsz : zs.length < 4611686018427387904) :
    Calls Try.prog 78 #[.slice (some ⟨blk, off, none⟩) zs.length cap] w fun e w' =>
      e = .returned (.tuple #[]) ∧ ∃ n os, w' = grow (putRow (Value.int .i64) (Sort.ahead w n) blk off (zs.mergeSort fun x y => decide (x ≤ y)).toArray) os := Any.slices_Sort_int Try.lays189 blk off cap zs w hH hblk hsz
open Go.RowKit Go.Sort in
/-- .. and plain. (LAID: no walk: one application.) -/
theorem Try.slices_Sort_int_none (p : Option Addr) (cap : Nat) (w : World) :
    Calls Try.prog 78 #[.slice p 0 cap] w fun e w' => e = .returned (.tuple #[]) ∧ w' = w := Any.slices_Sort_int_none Try.lays189 p cap w
end Go.Proofs

/-! part HSort -/
namespace Go.Proofs.Ytidghmgaaenihaa.Q
open Go.RowKit Go.Proofs.YtidghmgaaenihaaW.PrintWords Go.Proofs.YtidghmgaaenihaaW.PrintLast Go.Proofs.YtidghmgaaenihaaW.PrintMore
set_option linter.unusedVariables false
set_option linter.unusedSimpArgs false
theorem sortC : SortC := by
  intro w base v xs h hl
  by_cases h0 : xs.length = 0
  · obtain rfl := List.eq_nil_of_length_eq_zero h0
    obtain ⟨A, c, rfl, _, _⟩ := Kd.R_reads h
    refine (Try.slices_Sort_int_none A c w).mono ?_
    rintro e w' ⟨he, rfl⟩
    rw [List.mergeSort_nil]
    exact ⟨he, h, Below.refl _ _⟩
  · have hown := Kd.own_of_R (h1 := fun _ => rfl) h
    rcases hown.2 with ⟨rfl, hn⟩ | ⟨g, cap, cur, rfl, hbase, hb, h1, h2, h3, h4⟩
    · exact absurd hn h0
    · have hH : Go.Sort.Holds (Value.int .i64) w g 0 xs.toArray := Go.holds_of_blockI hb (by simpa [Nat.mul_one, encs] using h4)
      have hgl := (Array.getElem?_eq_some_iff.1 hb).1
      refine (Try.slices_Sort_int g 0 cap xs w hH hgl (by omega)).mono ?_
      rintro e w' ⟨he, n, os, rfl⟩
      refine ⟨he, Kd.R_of_own (h1 := fun _ => rfl) ?_ (fun _ _ => trivial), (Below.refl base w).grown (Go.grownBy_sortedI _) (by omega) (fun k hk => by cases hk; exact hbase)⟩
      rw [List.length_mergeSort]
      exact Go.ownsRow_sortedI (by rw [List.length_mergeSort]) hbase hb h1 h2 h3
end Go.Proofs.Ytidghmgaaenihaa.Q

/-! part HValid -/
namespace Go.Proofs.Ytidghmgaaenihaa.Q
open Go.RowKit Go.Proofs.YtidghmgaaenihaaW.PrintWords Go.Proofs.YtidghmgaaenihaaW.PrintLast Go.Proofs.YtidghmgaaenihaaW.PrintMore
set_option linter.unusedVariables false
set_option linter.unusedSimpArgs false
theorem valid39 (A : Option Addr) (c : Nat) (l : List S39) (w : World) (hr : Kd.C k39 w A l.length l) (hc : l.length ≤ c) (hsz : l.length ≤ 1000000) :
    Calls Try.prog 39 #[.slice A l.length c] w fun e w' => e = .returned (.bool (parseP l).isSome) ∧ Below w.heap.size w w' := by
  have HR := Aside0.mk hr
  clear hr
  cases hp : parseP l with
  | none =>
    have HP := Aside0.mk (parse_any A c l w HR.out hc hsz)
    unfold ParsePost at HP
    rw [hp] at HP
    clear hp
    simp only [Option.isSome_none]
    go_enter Try.func39, Try.ntmps39
    go_wp2_with (go_at_call 65; (with_reducible refine HP.out.mono ?_); rintro e w1 ⟨hB, rfl⟩)
    go_ret
    exact ⟨rfl, hB⟩
  | some s =>
    have HP := Aside0.mk (parse_any A c l w HR.out hc hsz)
    unfold ParsePost at HP
    rw [hp] at HP
    clear hp
    simp only [Option.isSome_some]
    go_enter Try.func39, Try.ntmps39
    go_wp2_with (go_at_call 65; (with_reducible refine HP.out.mono ?_); rintro e w1 ⟨hB, B, v, bs, rfl, hM, hO⟩; clear hM hO)
    go_ret
    exact ⟨rfl, hB⟩
end Go.Proofs.Ytidghmgaaenihaa.Q

/-! part HRec -/
namespace Go.Proofs.Ytidghmgaaenihaa.Q
open Go.RowKit Go.Proofs.YtidghmgaaenihaaW.PrintWords Go.Proofs.YtidghmgaaenihaaW.PrintLast Go.Proofs.YtidghmgaaenihaaW.PrintMore
set_option linter.unusedVariables false
set_option linter.unusedSimpArgs false

theorem info4 : (Try.prog.info? 4).map (fun i => (i.zero, i.size, i.bytes)) = some (some (.bool false), 1, 1) := by kernel_rfl
/-- A recorder at p: its rows lie in blocks of its own. -/
structure RecV (w : World) (base p : Nat) (ok : Nat → Prop) (v1 v2 v3 : Value) (es cs : List S39) (os : List Bool) : Prop where
  blk : w.heap[p]? = some (.cells #[v1, v2, v3] 116 (0, 0))
  le : base ≤ p
  okp : ok p
  R1 : Kd.R k39 39 w base ok v1 es
  R2 : Kd.R k39 39 w base ok v2 cs
  R3 : Kd.R Kd.bool 4 w base ok v3 os
  apart : ∀ k, v1.ownBlock = some k → v2.ownBlock ≠ some k
def Rec (w : World) (base p : Nat) (ok : Nat → Prop) (es cs : List S39) (os : List Bool) : Prop := ∃ v1 v2 v3, RecV w base p ok v1 v2 v3 es cs os

theorem E39 : k39.E = [] := rfl
theorem Ebool : Kd.bool.E = [] := rfl
section
variable {w W w1 : World} {base p : Nat} {ok : Nat → Prop} {v1 v2 v3 u : Value} {es cs : List S39} {os : List Bool} {e : S39}
theorem RecV.lt (h : RecV w base p ok v1 v2 v3 es cs os) : p < w.heap.size := blk_lt h.blk
theorem RecV.ne1 (h : RecV w base p ok v1 v2 v3 es cs os) : some p ≠ v1.ownBlock := by
  intro he
  obtain ⟨c, hc⟩ := Kd.R_typed h.R1 p he.symm
  rw [h.blk] at hc; cases hc
theorem RecV.ne2 (h : RecV w base p ok v1 v2 v3 es cs os) : some p ≠ v2.ownBlock := by
  intro he
  obtain ⟨c, hc⟩ := Kd.R_typed h.R2 p he.symm
  rw [h.blk] at hc; cases hc
theorem RecV.ne3 (h : RecV w base p ok v1 v2 v3 es cs os) : some p ≠ v3.ownBlock := by
  intro he
  obtain ⟨c, hc⟩ := Kd.R_typed h.R3 p he.symm
  rw [h.blk] at hc; cases hc
theorem RecV.below (h : RecV w base p ok v1 v2 v3 es cs os) (hb : Below w.heap.size w W) : RecV W base p ok v1 v2 v3 es cs os :=
  ⟨(hb.block p h.lt).trans h.blk, h.le, h.okp, Kd.R_below h.R1 hb, Kd.R_below h.R2 hb, Kd.R_below h.R3 hb, h.apart⟩
/-- A row appended to and put into its field: the events. -/
theorem RecV.app1 (h : RecV w base p ok v1 v2 v3 es cs os) (hr : Kd.R k39 39 w1 base ok u (es ++ [e])) (hg : w.grownBy w1 v1.ownBlock) (hat : u.ownBlock = v1.ownBlock ∨ ∃ b, u.ownBlock = some b ∧ w.heap.size ≤ b) :
    RecV (w1.setCell ⟨p, 0, none⟩ u) base p ok u v2 v3 (es ++ [e]) cs os := by
  have hb : w1.heap[p]? = some (.cells #[v1, v2, v3] 116 (0, 0)) := blk_grown h.blk hg h.ne1
  have h2 : Kd.R k39 39 w1 base ok v2 cs := Kd.R_grown2 h.R2 E39 hg (fun k hk hk2 => h.apart k hk hk2.symm)
  have h3 : Kd.R Kd.bool 4 w1 base ok v3 os := Kd.R_over h.R3 h.R1 (by simp [Kd.bool, Kd.scalar]) hg
  refine ⟨blk_put hb 0 u rfl, h.le, h.okp, Kd.R_set hr hb (by rw [E39]; simp) 0 u, Kd.R_set h2 hb (by rw [E39]; simp) 0 u, Kd.R_set h3 hb (by rw [Ebool]; simp) 0 u, fun k hk hk2 => ?_⟩
  rcases hat with hat | ⟨b, hb, hle⟩
  · exact h.apart k (hat ▸ hk) hk2
  · have := Kd.R_lt h.R2 k hk2
    rw [hb] at hk; cases hk; omega
theorem RecV.app2 (h : RecV w base p ok v1 v2 v3 es cs os) (hr : Kd.R k39 39 w1 base ok u (cs ++ [e])) (hg : w.grownBy w1 v2.ownBlock) (hat : u.ownBlock = v2.ownBlock ∨ ∃ b, u.ownBlock = some b ∧ w.heap.size ≤ b) :
    RecV (w1.setCell ⟨p, 1, none⟩ u) base p ok v1 u v3 es (cs ++ [e]) os := by
  have hb : w1.heap[p]? = some (.cells #[v1, v2, v3] 116 (0, 0)) := blk_grown h.blk hg h.ne2
  have h1 : Kd.R k39 39 w1 base ok v1 es := Kd.R_grown2 h.R1 E39 hg (fun k hk hk2 => h.apart k hk2.symm hk)
  have h3 : Kd.R Kd.bool 4 w1 base ok v3 os := Kd.R_over h.R3 h.R2 (by simp [Kd.bool, Kd.scalar]) hg
  refine ⟨blk_put hb 1 u rfl, h.le, h.okp, Kd.R_set h1 hb (by rw [E39]; simp) 1 u, Kd.R_set hr hb (by rw [E39]; simp) 1 u, Kd.R_set h3 hb (by rw [Ebool]; simp) 1 u, fun k hk hk2 => ?_⟩
  rcases hat with hat | ⟨b, hb, hle⟩
  · exact h.apart k hk (hat ▸ hk2)
  · have := Kd.R_lt h.R1 k hk
    rw [hb] at hk2; cases hk2; omega
theorem RecV.app3 (h : RecV w base p ok v1 v2 v3 es cs os) {os' : List Bool} (hr : Kd.R Kd.bool 4 w1 base ok u os') (hg : w.grownBy w1 v3.ownBlock) :
    RecV (w1.setCell ⟨p, 2, none⟩ u) base p ok v1 v2 u es cs os' := by
  have hb : w1.heap[p]? = some (.cells #[v1, v2, v3] 116 (0, 0)) := blk_grown h.blk hg h.ne3
  have h1 : Kd.R k39 39 w1 base ok v1 es := Kd.R_over h.R1 h.R3 (by rw [E39]; simp) hg
  have h2 : Kd.R k39 39 w1 base ok v2 cs := Kd.R_over h.R2 h.R3 (by rw [E39]; simp) hg
  exact ⟨blk_put hb 2 u rfl, h.le, h.okp, Kd.R_set h1 hb (by rw [E39]; simp) 2 u, Kd.R_set h2 hb (by rw [E39]; simp) 2 u, Kd.R_set hr hb (by rw [Ebool]; simp) 2 u, h.apart⟩
end
theorem new_any (w : World) (ok : Nat → Prop) (hok : ∀ k, w.heap.size ≤ k → ok k) : Calls Try.prog 34 #[] w fun e w' => ∃ p, e = .returned (.pointer (some ⟨p, 0, none⟩)) ∧ Rec w' w.heap.size p ok [] [] [] ∧ Below w.heap.size w w' := by
  go_enter Try.func34, Try.ntmps34
  go_wp2
  go_ret
  refine ⟨w.heap.size, rfl, ⟨.slice none 0 0, .slice none 0 0, .slice none 0 0, ?_⟩, by repeat (first | exact Below.refl _ _ | apply below_alloc)⟩
  exact ⟨blk_new w _, Nat.le_refl _, hok _ (Nat.le_refl _), Kd.R_nil _ _ _ _ _, Kd.R_nil _ _ _ _ _, Kd.R_nil _ _ _ _ _, fun k hk => by simp [Value.ownBlock] at hk⟩
end Go.Proofs.Ytidghmgaaenihaa.Q

/-! part HRecCall -/
namespace Go.Proofs.Ytidghmgaaenihaa.Q
open Go.RowKit Go.Proofs.YtidghmgaaenihaaW.PrintWords Go.Proofs.YtidghmgaaenihaaW.PrintLast Go.Proofs.YtidghmgaaenihaaW.PrintMore
set_option linter.unusedVariables false
set_option linter.unusedSimpArgs false

theorem cell_al {W : World} {a : Addr} {v : Value} (h : W.cell? a = some v) (o : Obj) : (W.alloc o).drew.cell? a = some v :=
  cell_kept h (Kept.of_below (below_drew (below_alloc (Below.refl _ _) o)) (fun _ => False)) (fun h => h)
def callE (e : S39) (n : Nat) : S39 := ⟨1, n, e.f2, e.f3, e.f4, e.f5⟩
def evW (e : S39) : Value := .agg #[.int .i64 e.f0, .int .i64 e.f1, .bool e.f2, .int .i64 e.f3, .int .i64 e.f4, .bool e.f5]
set_option maxHeartbeats 4000000 in
set_option maxRecDepth 100000 in
theorem call_bad (w : World) (a : Option Addr) (e : S39) (hbad : e.f3 < 0 ∨ e.f4 < 0) :
    Calls Try.prog 70 #[.pointer a, evW e] w fun r w' => r = .returned (.int .i64 (-1)) ∧ Below w.heap.size w w' := by
  obtain ⟨e0, e1, e2, e3, e4, e5⟩ := e
  simp only [evW] at hbad ⊢
  have h3 : ∀ a : Option Addr, e3 < 0 ∨ (¬ e3 < 0 ∧ e4 < 0) := fun _ => by omega
  cases a with
  | none =>
    go_enter Try.func70, Try.ntmps70
    go_wp2
    all_goals go_ret
    all_goals exact ⟨rfl, by repeat (first | exact Below.refl _ _ | apply below_alloc)⟩
  | some a =>
    rcases h3 none with h3 | ⟨h3, h4⟩
    all_goals go_enter Try.func70, Try.ntmps70
    all_goals go_wp2
    all_goals go_ret
    all_goals exact ⟨rfl, by repeat (first | exact Below.refl _ _ | apply below_alloc)⟩
/-- In the midst of a method: the recorder, and the event in a block g of the method's own. -/
structure Mid (w W : World) (base p g : Nat) (ok : Nat → Prop) (x : S39) (v1 v2 v3 : Value) (es cs : List S39) (os : List Bool) : Prop where
  V : RecV W base p ok v1 v2 v3 es cs os
  B : Below base w W
  K : Kept w W ok
  bk : W.heap[g]? = some (.cells #[.int .i64 x.f0, .int .i64 x.f1, .bool x.f2, .int .i64 x.f3, .int .i64 x.f4, .bool x.f5] 39 (0, 0))
  n1 : some g ≠ v1.ownBlock
  n2 : some g ≠ v2.ownBlock
section
variable {w W w1 : World} {base p g : Nat} {ok : Nat → Prop} {x : S39} {v1 v2 v3 u : Value} {es cs : List S39} {os : List Bool} {e : S39}
theorem Mid.np (h : Mid w W base p g ok x v1 v2 v3 es cs os) : g ≠ p := by
  intro q; subst q
  have := h.V.blk
  rw [h.bk] at this; cases this
theorem Mid.app1 (h : Mid w W base p g ok x v1 v2 v3 es cs os) (hr : Kd.R k39 39 w1 base ok u (es ++ [e])) (hb : Below base W w1) (hg : W.grownBy w1 v1.ownBlock) (hat : u.ownBlock = v1.ownBlock ∨ ∃ b, u.ownBlock = some b ∧ W.heap.size ≤ b) :
    Mid w (w1.setCell ⟨p, 0, none⟩ u) base p g ok x u v2 v3 (es ++ [e]) cs os := by
  have hl := blk_lt h.bk
  refine ⟨h.V.app1 hr hg hat, ?_, ?_, blk_far (blk_grown h.bk hg h.n1) h.np u, ?_, h.n2⟩
  · exact (h.B.trans hb).setCell h.V.le _
  · exact (Kept.of_grown hg h.K (fun k hk => .inl (h.V.R1.1 k hk))).setCell (.inl h.V.okp) u
  · rcases hat with hat | ⟨b, hb, hle⟩
    · rw [hat]; exact h.n1
    · rw [hb]; intro q; cases q; omega
theorem Mid.app2 (h : Mid w W base p g ok x v1 v2 v3 es cs os) (hr : Kd.R k39 39 w1 base ok u (cs ++ [e])) (hb : Below base W w1) (hg : W.grownBy w1 v2.ownBlock) (hat : u.ownBlock = v2.ownBlock ∨ ∃ b, u.ownBlock = some b ∧ W.heap.size ≤ b) :
    Mid w (w1.setCell ⟨p, 1, none⟩ u) base p g ok x v1 u v3 es (cs ++ [e]) os := by
  have hl := blk_lt h.bk
  refine ⟨h.V.app2 hr hg hat, ?_, ?_, blk_far (blk_grown h.bk hg h.n2) h.np u, h.n1, ?_⟩
  · exact (h.B.trans hb).setCell h.V.le _
  · exact (Kept.of_grown hg h.K (fun k hk => .inl (h.V.R2.1 k hk))).setCell (.inl h.V.okp) u
  · rcases hat with hat | ⟨b, hb, hle⟩
    · rw [hat]; exact h.n2
    · rw [hb]; intro q; cases q; omega
theorem Mid.app3 (h : Mid w W base p g ok x v1 v2 v3 es cs os) {os' : List Bool} (hr : Kd.R Kd.bool 4 w1 base ok u os') (hb : Below base W w1) (hg : W.grownBy w1 v3.ownBlock) :
    Mid w (w1.setCell ⟨p, 2, none⟩ u) base p g ok x v1 v2 u es cs os' := by
  have n3 : some g ≠ v3.ownBlock := by
    intro he
    obtain ⟨c, hc⟩ := Kd.R_typed h.V.R3 g he.symm
    rw [h.bk] at hc; cases hc
  refine ⟨h.V.app3 hr hg, ?_, ?_, blk_far (blk_grown h.bk hg n3) h.np u, h.n1, h.n2⟩
  · exact (h.B.trans hb).setCell h.V.le _
  · exact (Kept.of_grown hg h.K (fun k hk => .inl (h.V.R3.1 k hk))).setCell (.inl h.V.okp) u
theorem Mid.drew (h : Mid w W base p g ok x v1 v2 v3 es cs os) : Mid w W.drew base p g ok x v1 v2 v3 es cs os :=
  ⟨h.V.below (below_drew (Below.refl _ _)), below_drew h.B, h.K, h.bk, h.n1, h.n2⟩
end
set_option maxHeartbeats 4000000 in
set_option maxRecDepth 100000 in
theorem call_good (w : World) {base p : Nat} {ok : Nat → Prop} {v1 v2 v3 : Value} {es cs : List S39} {os : List Bool} (h : RecV w base p ok v1 v2 v3 es cs os) (hok : ∀ k, w.heap.size ≤ k → ok k)
    (hs1 : es.length ≤ 1000) (hs2 : cs.length ≤ 1000) (hs3 : os.length ≤ 1000) (e : S39) (h3 : 0 ≤ e.f3) (h4 : 0 ≤ e.f4) :
    Calls Try.prog 70 #[.pointer (some ⟨p, 0, none⟩), evW e] w fun r w' => r = .returned (.int .i64 cs.length) ∧ Rec w' base p ok (es ++ [callE e cs.length]) (cs ++ [callE e cs.length]) (os ++ [true]) ∧ Below base w w' ∧ Kept w w' ok := by
  obtain ⟨e0, e1, e2, e3, e4, e5⟩ := e
  simp only [evW, callE] at h3 h4 ⊢
  have HV := Aside0.mk h
  have HOK := Aside0.mk hok
  clear hok
  have hpl := h.lt
  have k3 : ¬ e3 < 0 := by omega
  have k4 : ¬ e4 < 0 := by omega
  obtain ⟨A1, c1, eA1, hc1, _⟩ := Kd.R_reads h.R1
  obtain ⟨A2, c2, eA2, hc2, _⟩ := Kd.R_reads h.R2
  obtain ⟨A3, c3, eA3, hc3, _⟩ := Kd.R_reads h.R3
  subst eA1 eA2 eA3
  have q1 : w.cell? ⟨p, 1, none⟩ = some (.slice A2 cs.length c2) := (blk_cell h.blk 1).trans rfl
  have nb1 : some w.heap.size ≠ (Value.slice A1 es.length c1).ownBlock := fun he => by have := Kd.R_lt h.R1 _ he.symm; omega
  have nb2 : some w.heap.size ≠ (Value.slice A2 cs.length c2).ownBlock := fun he => by have := Kd.R_lt h.R2 _ he.symm; omega
  have hbw0 : base ≤ w.heap.size := by have := h.le; have := h.lt; omega
  have HM := Aside0.mk (show Mid w (w.alloc (.cells #[.int .i64 1, .int .i64 cs.length, .bool e2, .int .i64 e3, .int .i64 e4, .bool e5] 39)).drew base p w.heap.size ok ⟨1, cs.length, e2, e3, e4, e5⟩ _ _ _ es cs os from
    ⟨h.below (below_drew (below_alloc (Below.refl _ _) _)), below_drew (below_then (Below.refl base w) hbw0 (below_alloc (Below.refl _ _) _)), Kept.of_below (below_drew (below_alloc (Below.refl _ _) _)) _, blk_new w _, nb1, nb2⟩)
  clear h nb1 nb2
  go_enter Try.func70, Try.ntmps70
  go_wp2
  go_region
  all_goals go_wp2
  generalize (w.alloc (.cells #[.int .i64 1, .int .i64 cs.length, .bool e2, .int .i64 e3, .int .i64 e4, .bool e5] 39)).drew = W at HM ⊢
  have hfr : ∀ k, W.heap.size ≤ k → ok k := fun k hk => HOK.out k (by have := HM.out.K.1; omega)
  have hbw : base ≤ W.heap.size := by have := HM.out.K.1; omega
  have r0 : W.cell? ⟨p, 0, none⟩ = some (.slice A1 es.length c1) := (blk_cell HM.out.V.blk 0).trans rfl
  have b0 : W.cell? ⟨w.heap.size, 0, none⟩ = some (.int .i64 1) := (blk_cell HM.out.bk 0).trans rfl
  have b1 : W.cell? ⟨w.heap.size, 1, none⟩ = some (.int .i64 cs.length) := (blk_cell HM.out.bk 1).trans rfl
  have b2 : W.cell? ⟨w.heap.size, 2, none⟩ = some (.bool e2) := (blk_cell HM.out.bk 2).trans rfl
  have b3 : W.cell? ⟨w.heap.size, 3, none⟩ = some (.int .i64 e3) := (blk_cell HM.out.bk 3).trans rfl
  have b4 : W.cell? ⟨w.heap.size, 4, none⟩ = some (.int .i64 e4) := (blk_cell HM.out.bk 4).trans rfl
  have b5 : W.cell? ⟨w.heap.size, 5, none⟩ = some (.bool e5) := (blk_cell HM.out.bk 5).trans rfl
  have na := HM.out.V.ne1
  have ra : ∀ o, (W.alloc o).cell? ⟨p, 0, none⟩ = some (.slice A1 es.length c1) := fun o => (cell_al r0 o)
  clear q1 hpl
  go_region_law ((refine Kd.R_append_step k39 (w0 := W.drew) (W := W.drew) base (by rfl) (.tmp 28) (.tmp 30) 22 39 (.agg #[(.int .i64 0), (.int .i64 0), (.bool false), (.int .i64 0), (.int .i64 0), (.bool false)]) 48 rfl Try.underlying22 info39 rfl (by decide) (by omega) (.slice A1 es.length c1) es ⟨1, cs.length, e2, e3, e4, e5⟩ [.int .i64 1, .int .i64 cs.length, .bool e2, .int .i64 e3, .int .i64 e4, .bool e5] ok (fun _ => False) rfl rfl (k39_mkM _ _ _ ⟨1, cs.length, e2, e3, e4, e5⟩) (fun _ hk => hk.elim) (fun k hk => hfr k hk) (Kd.R_drew HM.out.V.R1) (Below.refl base W.drew) (by exact hbw) (by omega) ?_; intro u1 w9 ho hb hg hat; obtain ⟨A9, c9, rfl, hc9, _⟩ := Kd.R_reads ho; have hp9 := blk_grown (w := W.drew) HM.out.V.blk hg na; have z9 := blk_frozen hp9 0; have y9 : w9.cell? ⟨p, 0, none⟩ = some (.slice A1 es.length c1) := (blk_cell hp9 0).trans rfl; have HM2 := Aside0.mk (Mid.app1 HM.out.drew ho hb hg hat); clear ho hb hg hat hp9))
  all_goals clear r0 b0 b1 b2 b3 b4 b5 na ra hfr hbw HM y9 z9 hc9
  all_goals simp only [List.length_append, List.length_cons, List.length_nil, Nat.zero_add] at HM2
  all_goals generalize w9.setCell ⟨p, 0, none⟩ (.slice A9 (es.length + 1) c9) = W2 at HM2 ⊢
  all_goals go_wp2
  all_goals have hfr : ∀ k, W2.heap.size ≤ k → ok k := fun k hk => HOK.out k (by have := HM2.out.K.1; omega)
  all_goals have hbw : base ≤ W2.heap.size := by have := HM2.out.K.1; omega
  all_goals have r0 : W2.cell? ⟨p, 1, none⟩ = some (.slice A2 cs.length c2) := (blk_cell HM2.out.V.blk 1).trans rfl
  all_goals have b0 : W2.cell? ⟨w.heap.size, 0, none⟩ = some (.int .i64 1) := (blk_cell HM2.out.bk 0).trans rfl
  all_goals have b1 : W2.cell? ⟨w.heap.size, 1, none⟩ = some (.int .i64 cs.length) := (blk_cell HM2.out.bk 1).trans rfl
  all_goals have b2 : W2.cell? ⟨w.heap.size, 2, none⟩ = some (.bool e2) := (blk_cell HM2.out.bk 2).trans rfl
  all_goals have b3 : W2.cell? ⟨w.heap.size, 3, none⟩ = some (.int .i64 e3) := (blk_cell HM2.out.bk 3).trans rfl
  all_goals have b4 : W2.cell? ⟨w.heap.size, 4, none⟩ = some (.int .i64 e4) := (blk_cell HM2.out.bk 4).trans rfl
  all_goals have b5 : W2.cell? ⟨w.heap.size, 5, none⟩ = some (.bool e5) := (blk_cell HM2.out.bk 5).trans rfl
  all_goals have na := HM2.out.V.ne2
  all_goals have ra : ∀ o, (W2.alloc o).cell? ⟨p, 1, none⟩ = some (.slice A2 cs.length c2) := fun o => (cell_al r0 o)
  all_goals go_region_law ((refine Kd.R_append_step k39 (w0 := W2.drew) (W := W2.drew) base (by rfl) (.tmp 38) (.tmp 40) 22 39 (.agg #[(.int .i64 0), (.int .i64 0), (.bool false), (.int .i64 0), (.int .i64 0), (.bool false)]) 48 rfl Try.underlying22 info39 rfl (by decide) (by omega) (.slice A2 cs.length c2) cs ⟨1, cs.length, e2, e3, e4, e5⟩ [.int .i64 1, .int .i64 cs.length, .bool e2, .int .i64 e3, .int .i64 e4, .bool e5] ok (fun _ => False) rfl rfl (k39_mkM _ _ _ ⟨1, cs.length, e2, e3, e4, e5⟩) (fun _ hk => hk.elim) (fun k hk => hfr k hk) (Kd.R_drew HM2.out.V.R2) (Below.refl base W2.drew) (by exact hbw) (by omega) ?_; intro u2 w8 ho hb hg hat; obtain ⟨A8, c8, rfl, hc8, _⟩ := Kd.R_reads ho; have hp9 := blk_grown (w := W2.drew) HM2.out.V.blk hg na; have z9 := blk_frozen hp9 1; have y9 : w8.cell? ⟨p, 1, none⟩ = some (.slice A2 cs.length c2) := (blk_cell hp9 1).trans rfl; have HM3 := Aside0.mk (Mid.app2 HM2.out.drew ho hb hg hat); clear ho hb hg hat hp9))
  all_goals clear r0 b0 b1 b2 b3 b4 b5 na ra hfr hbw HM2 y9 z9 hc8
  all_goals simp only [List.length_append, List.length_cons, List.length_nil, Nat.zero_add] at HM3
  all_goals generalize w8.setCell ⟨p, 1, none⟩ (.slice A8 (cs.length + 1) c8) = W3 at HM3 ⊢
  all_goals have hfr : ∀ k, W3.heap.size ≤ k → ok k := fun k hk => HOK.out k (by have := HM3.out.K.1; omega)
  all_goals have hbw : base ≤ W3.heap.size := by have := HM3.out.K.1; omega
  all_goals have r0 : W3.cell? ⟨p, 2, none⟩ = some (.slice A3 os.length c3) := (blk_cell HM3.out.V.blk 2).trans rfl
  all_goals have ra : ∀ o, (W3.alloc o).cell? ⟨p, 2, none⟩ = some (.slice A3 os.length c3) := fun o => (cell_al r0 o)
  all_goals have b1 : W3.cell? ⟨w.heap.size, 1, none⟩ = some (.int .i64 cs.length) := (blk_cell HM3.out.bk 1).trans rfl
  all_goals have na := HM3.out.V.ne3
  all_goals go_wp2_with (at_builtin; go_loud (refine Kd.R_append Kd.bool (w0 := W3) base rfl (.tmp 48) (.tmp 49) 114 4 (.bool false) 1 rfl Try.underlying114 info4 rfl (by decide) (by omega) (.slice A3 os.length c3) os true [.bool true] ok (fun _ => False) rfl rfl rfl (fun _ hk => hk.elim) (fun k hk => hfr k hk) HM3.out.V.R3 (Below.refl base W3) (by exact hbw) (by omega) ?_); intro u3 w7 ho hb hg hat; obtain ⟨A7, c7, rfl, hc7, _⟩ := Kd.R_reads ho; have hp9 := blk_grown HM3.out.V.blk hg na; have z9 := blk_frozen hp9 2; have y9 : w7.cell? ⟨p, 2, none⟩ = some (.slice A3 os.length c3) := (blk_cell hp9 2).trans rfl; have HM4 := Aside0.mk (Mid.app3 HM3.out ho hb hg); simp only [List.length_append, List.length_cons, List.length_nil, Nat.zero_add] at HM4; have bb1 : (w7.setCell ⟨p, 2, none⟩ (.slice A7 (os.length + 1) c7)).cell? ⟨w.heap.size, 1, none⟩ = some (.int .i64 cs.length) := (blk_cell HM4.out.bk 1).trans rfl; clear ho hb hg hat hp9)
  all_goals go_ret
  all_goals exact ⟨rfl, ⟨_, _, _, HM4.out.V⟩, HM4.out.B, HM4.out.K⟩
end Go.Proofs.Ytidghmgaaenihaa.Q
