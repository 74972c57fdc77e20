/- Texts of this claim, packed: Q12, Q33, ROps, Qe59, Q10, PLaw10, PLaw12, HOpen, HOpen2, HOpen3. -/
import Derived.Test.YtidghmgaaenihaaQ0
import Derived.Test.YtidghmgaaenihaaBHistoryPrefixes0
import Derived.Test.YtidghmgaaenihaaHOps
import Derived.Deep.Slices
import Derived.Deep.Fields
import Derived.ChangeSame
import Derived.ChangeSlices
import Derived.WideKeyArr2
/-! part Q12 -/
namespace Go.Proofs.Ytidghmgaaenihaa.Q
open Go.RowKit Go.Proofs.YtidghmgaaenihaaW.PrintWords Go.Proofs.YtidghmgaaenihaaW.PrintLast Go.Proofs.YtidghmgaaenihaaW.PrintMore
attribute [local go_sem] max2_int min2_int max_two min_two max_three min_three max_four min_four
set_option linter.unusedVariables false
set_option linter.unusedSimpArgs false

attribute [local go_sem high] eqA60
/-! ### tegulalaw45_HistoryPrefixes: function 12 -/
mutual
def tegulalaw45_HistoryPrefixes.j0 : Nat → List (S60) → List (S60) → Bool → Option (Bool)
  | 0, _, _, _ => none
  | k + 1, x8, x10, x58 => if x58 = true then (some false) else (tegulalaw45_HistoryPrefixes.l0 k x8 x10 0)
def tegulalaw45_HistoryPrefixes.l0 : Nat → List (S60) → List (S60) → Int → Option (Bool)
  | 0, _, _, _ => none
  | k + 1, x8, x10, x12 => if x12 < (x10.length : Int) then (if 0 ≤ x12 then (if x12 < (x8.length : Int) then (if ((rd_T60 x8 x12).f0) = ((rd_T60 x10 x12).f0) then (if ((rd_T60 x8 x12).f6) = ((rd_T60 x10 x12).f6) then (if ((rd_T60 x8 x12).f5) = ((rd_T60 x10 x12).f5) then (if ((rd_T60 x10 x12).f7) ≥ 0 then (if (!(((rd_T60 x8 x12).f0) == ((rd_T60 x10 x12).f0)) || (!(((rd_T60 x8 x12).f1) == ((rd_T60 x10 x12).f1)) || (!(((rd_T60 x8 x12).f2) == ((rd_T60 x10 x12).f2)) || (!(((rd_T60 x8 x12).f3) == ((rd_T60 x10 x12).f3)) || (!(((rd_T60 x8 x12).f4) == ((rd_T60 x10 x12).f4)) || (!(((rd_T60 x8 x12).f5) == ((rd_T60 x10 x12).f5)) || (!(((rd_T60 x8 x12).f6) == ((rd_T60 x10 x12).f6)) || (!(((rd_T60 x8 x12).f7) == ((rd_T60 x10 x12).f7)))))))))) = true then (some false) else (tegulalaw45_HistoryPrefixes.l0 k x8 x10 (wrap64 (x12 + 1)))) else (tegulalaw45_HistoryPrefixes.l0 k x8 x10 (wrap64 (x12 + 1)))) else (some false)) else (some false)) else (some false)) else (none)) else (none)) else (some true)
end
def tegulalaw45_HistoryPrefixes.f (k : Nat) (l0 : List (S69)) (a1 : Int) : Option (Bool) := (tegulalaw45_awake.f).bind fun t495 => (if t495 = true then (if (l0.length : Int) > 40 then (some true) else ((tegularef45_Record.f l0).bind fun bt496 => (if (wrap64 ((bt496.1.length : Int) + 1)) = 0 then (none) else (if 0 ≤ (Int.tmod (wrap64 (a1)) (wrap64 ((bt496.1.length : Int) + 1))) then (if (Int.tmod (wrap64 (a1)) (wrap64 ((bt496.1.length : Int) + 1))) ≤ (bt496.1.length : Int) then ((some (bt496.1.take ((Int.tmod (wrap64 (a1)) (wrap64 ((bt496.1.length : Int) + 1))) : Int).toNat : List (S39))).bind fun y502 => ((history_Ops.f bt496.1).bind fun bt506 => ((history_Ops.f y502).bind fun bt510 => (if bt506.2 = 0 then (if bt510.2 = 0 then ((history_Valid.f y502).bind fun t514 => (if t514 = true then (tegulalaw45_HistoryPrefixes.j0 k bt506.1 bt510.1 (decide ((bt510.1.length : Int) > (bt506.1.length : Int)))) else (tegulalaw45_HistoryPrefixes.j0 k bt506.1 bt510.1 true))) else (tegulalaw45_HistoryPrefixes.j0 k bt506.1 bt510.1 true)) else (tegulalaw45_HistoryPrefixes.j0 k bt506.1 bt510.1 true))))) else (none)) else (none))))) else (some false))
theorem tegulalaw45_HistoryPrefixes.mono_l : ∀ k, (∀ y0 y1 y2, LeO (tegulalaw45_HistoryPrefixes.j0 k y0 y1 y2) (tegulalaw45_HistoryPrefixes.j0 (k + 1) y0 y1 y2)) ∧ (∀ y0 y1 y2, LeO (tegulalaw45_HistoryPrefixes.l0 k y0 y1 y2) (tegulalaw45_HistoryPrefixes.l0 (k + 1) y0 y1 y2))
  | 0 => ⟨fun _ _ _ r h => by simp [tegulalaw45_HistoryPrefixes.j0] at h, fun _ _ _ r h => by simp [tegulalaw45_HistoryPrefixes.l0] at h⟩
  | k + 1 => by
    obtain ⟨ih0, ih1⟩ := tegulalaw45_HistoryPrefixes.mono_l k
    refine ⟨?_, ?_⟩
    · intro y0 y1 y2
      unfold tegulalaw45_HistoryPrefixes.j0
      repeat' first
      | (with_reducible exact ih0 _ _ _)
      | (with_reducible exact ih1 _ _ _)
      | (with_reducible exact LeO.refl _)
      | (with_reducible exact LeO.none _)
      | (with_reducible refine LeO.ite ?_ ?_)
      | (with_reducible refine LeO.bind ?_ (fun _ => ?_))
      | exact ih0 _ _ _
      | exact ih1 _ _ _
      | exact LeO.none _
      | refine LeO.ite ?_ ?_
      | refine LeO.bind ?_ (fun _ => ?_)
    · intro y0 y1 y2
      unfold tegulalaw45_HistoryPrefixes.l0
      repeat' first
      | (with_reducible exact ih0 _ _ _)
      | (with_reducible exact ih1 _ _ _)
      | (with_reducible exact LeO.refl _)
      | (with_reducible exact LeO.none _)
      | (with_reducible refine LeO.ite ?_ ?_)
      | (with_reducible refine LeO.bind ?_ (fun _ => ?_))
      | exact ih0 _ _ _
      | exact ih1 _ _ _
      | exact LeO.none _
      | refine LeO.ite ?_ ?_
      | refine LeO.bind ?_ (fun _ => ?_)
theorem tegulalaw45_HistoryPrefixes.mono : ∀ a0 a1 k, LeO (tegulalaw45_HistoryPrefixes.f k a0 a1) (tegulalaw45_HistoryPrefixes.f (k + 1) a0 a1) := by
  intro a0 a1 k
  obtain ⟨ih0, ih1⟩ := tegulalaw45_HistoryPrefixes.mono_l k
  unfold tegulalaw45_HistoryPrefixes.f
  repeat' first
      | (with_reducible exact ih0 _ _ _)
      | (with_reducible exact ih1 _ _ _)
      | (with_reducible exact LeO.refl _)
      | (with_reducible exact LeO.none _)
      | (with_reducible refine LeO.ite ?_ ?_)
      | (with_reducible refine LeO.bind ?_ (fun _ => ?_))
      | exact ih0 _ _ _
      | exact ih1 _ _ _
      | exact LeO.none _
      | refine LeO.ite ?_ ?_
      | refine LeO.bind ?_ (fun _ => ?_)
set_option maxHeartbeats 8000000 in
set_option maxRecDepth 100000 in
theorem tegulalaw45_HistoryPrefixes.calls (k : Nat) (A0 : Option Addr) (c0 : Nat) (l0 : List (S69)) (a1 : Int) (r : Bool) (w : World) (hr0 : Kd.C k69 w A0 l0.length l0) (hc0 : l0.length ≤ c0) (h : tegulalaw45_HistoryPrefixes.f k l0 a1 = some r) :
    Calls Try.prog 12 #[.slice A0 l0.length c0, .int .u8 a1] w fun e w' => e = .returned (.bool r) ∧ Below w.heap.size w w' := by
  have hu60 := Try.underlying60
  have HR0 := Aside0.mk hr0
  have HC0 := Aside0.mk hc0
  clear hr0 hc0
  have HB := Aside0.mk (Below.refl w.heap.size w)
  have H : ((tegulalaw45_awake.f).bind fun t495 => (if t495 = true then (if (l0.length : Int) > 40 then (some true) else ((tegularef45_Record.f l0).bind fun bt496 => (if (wrap64 ((bt496.1.length : Int) + 1)) = 0 then (none) else (if 0 ≤ (Int.tmod (wrap64 (a1)) (wrap64 ((bt496.1.length : Int) + 1))) then (if (Int.tmod (wrap64 (a1)) (wrap64 ((bt496.1.length : Int) + 1))) ≤ (bt496.1.length : Int) then ((some (bt496.1.take ((Int.tmod (wrap64 (a1)) (wrap64 ((bt496.1.length : Int) + 1))) : Int).toNat : List (S39))).bind fun y502 => ((history_Ops.f bt496.1).bind fun bt506 => ((history_Ops.f y502).bind fun bt510 => (if bt506.2 = 0 then (if bt510.2 = 0 then ((history_Valid.f y502).bind fun t514 => (if t514 = true then (tegulalaw45_HistoryPrefixes.j0 k bt506.1 bt510.1 (decide ((bt510.1.length : Int) > (bt506.1.length : Int)))) else (tegulalaw45_HistoryPrefixes.j0 k bt506.1 bt510.1 true))) else (tegulalaw45_HistoryPrefixes.j0 k bt506.1 bt510.1 true)) else (tegulalaw45_HistoryPrefixes.j0 k bt506.1 bt510.1 true))))) else (none)) else (none))))) else (some false))) = some r := h
  clear h
  replace H := Option.bind_eq_some_iff.mp H
  obtain ⟨t495, A30, H⟩ := H
  replace H : (if t495 = true then (if (l0.length : Int) > 40 then (some true) else ((tegularef45_Record.f l0).bind fun bt496 => (if (wrap64 ((bt496.1.length : Int) + 1)) = 0 then (none) else (if 0 ≤ (Int.tmod (wrap64 (a1)) (wrap64 ((bt496.1.length : Int) + 1))) then (if (Int.tmod (wrap64 (a1)) (wrap64 ((bt496.1.length : Int) + 1))) ≤ (bt496.1.length : Int) then ((some (bt496.1.take ((Int.tmod (wrap64 (a1)) (wrap64 ((bt496.1.length : Int) + 1))) : Int).toNat : List (S39))).bind fun y502 => ((history_Ops.f bt496.1).bind fun bt506 => ((history_Ops.f y502).bind fun bt510 => (if bt506.2 = 0 then (if bt510.2 = 0 then ((history_Valid.f y502).bind fun t514 => (if t514 = true then (tegulalaw45_HistoryPrefixes.j0 k bt506.1 bt510.1 (decide ((bt510.1.length : Int) > (bt506.1.length : Int)))) else (tegulalaw45_HistoryPrefixes.j0 k bt506.1 bt510.1 true))) else (tegulalaw45_HistoryPrefixes.j0 k bt506.1 bt510.1 true)) else (tegulalaw45_HistoryPrefixes.j0 k bt506.1 bt510.1 true))))) else (none)) else (none))))) else (some false)) = some r := H
  have A3 := Aside0.mk A30
  clear A30
  by_cases c4 : t495 = true
  · subst c4
    have H1 : (if (l0.length : Int) > 40 then (some true) else ((tegularef45_Record.f l0).bind fun bt496 => (if (wrap64 ((bt496.1.length : Int) + 1)) = 0 then (none) else (if 0 ≤ (Int.tmod (wrap64 (a1)) (wrap64 ((bt496.1.length : Int) + 1))) then (if (Int.tmod (wrap64 (a1)) (wrap64 ((bt496.1.length : Int) + 1))) ≤ (bt496.1.length : Int) then ((some (bt496.1.take ((Int.tmod (wrap64 (a1)) (wrap64 ((bt496.1.length : Int) + 1))) : Int).toNat : List (S39))).bind fun y502 => ((history_Ops.f bt496.1).bind fun bt506 => ((history_Ops.f y502).bind fun bt510 => (if bt506.2 = 0 then (if bt510.2 = 0 then ((history_Valid.f y502).bind fun t514 => (if t514 = true then (tegulalaw45_HistoryPrefixes.j0 k bt506.1 bt510.1 (decide ((bt510.1.length : Int) > (bt506.1.length : Int)))) else (tegulalaw45_HistoryPrefixes.j0 k bt506.1 bt510.1 true))) else (tegulalaw45_HistoryPrefixes.j0 k bt506.1 bt510.1 true)) else (tegulalaw45_HistoryPrefixes.j0 k bt506.1 bt510.1 true))))) else (none)) else (none))))) = some r := by rw [if_pos rfl] at H; exact H
    clear H
    have H := H1
    clear H1
    by_cases c5 : (l0.length : Int) > 40
    · rw [if_pos c5] at H
      have c5b0 : decide (40 < (l0.length : Int)) = true := decide_eq_true c5
      have c5b1 : decide (40 < l0.length) = true := decide_eq_true (by omega)
      clear c5
      obtain rfl := Option.some.inj H
      go_enter Try.func12, Try.ntmps12
      go_wp2_with (first | (go_at_call 31; (with_reducible refine (tegulalaw45_awake.calls  true _ A3.out).mono ?_); rintro e w6 ⟨rfl, hb⟩; have n0_ := Aside0.mk (below_step (by repeat (first | (with_reducible first | exact HB.out | apply below_alloc | apply pw_below_drewN | apply below_drew1) | exact HB.out)) hb); clear HB; have HB := n0_; clear n0_; (try clear hb); (try clear hb2); (try clear hk); (try clear hi)))
      repeat (go_quiet (first | (go_at_call 31; (with_reducible refine (tegulalaw45_awake.calls  true _ A3.out).mono ?_); rintro e w6 ⟨rfl, hb⟩; have n0_ := Aside0.mk (below_step (by repeat (first | (with_reducible first | exact HB.out | apply below_alloc | apply pw_below_drewN | apply below_drew1) | exact HB.out)) hb); clear HB; have HB := n0_; clear n0_; (try clear hb); (try clear hb2); (try clear hk); (try clear hi))); try go_wp2_with (first | (go_at_call 31; (with_reducible refine (tegulalaw45_awake.calls  true _ A3.out).mono ?_); rintro e w6 ⟨rfl, hb⟩; have n0_ := Aside0.mk (below_step (by repeat (first | (with_reducible first | exact HB.out | apply below_alloc | apply pw_below_drewN | apply below_drew1) | exact HB.out)) hb); clear HB; have HB := n0_; clear n0_; (try clear hb); (try clear hb2); (try clear hk); (try clear hi))))
      go_ret
      exact ⟨by first | rfl | (simp [errW_none, errW_some] <;> rfl) | (simp [*, errW_none, errW_some] <;> rfl), by repeat (first | (with_reducible first | exact HB.out | apply below_alloc | apply pw_below_drewN | apply below_drew1) | exact HB.out)⟩
    · rw [if_neg c5] at H
      have c5b0 : decide (40 < (l0.length : Int)) = false := decide_eq_false c5
      have c5b1 : decide (40 < l0.length) = false := decide_eq_false (by omega)
      clear c5
      replace H := Option.bind_eq_some_iff.mp H
      obtain ⟨⟨t496, t497⟩, A70, H⟩ := H
      replace H : (if (wrap64 ((t496.length : Int) + 1)) = 0 then (none) else (if 0 ≤ (Int.tmod (wrap64 (a1)) (wrap64 ((t496.length : Int) + 1))) then (if (Int.tmod (wrap64 (a1)) (wrap64 ((t496.length : Int) + 1))) ≤ (t496.length : Int) then ((some (t496.take ((Int.tmod (wrap64 (a1)) (wrap64 ((t496.length : Int) + 1))) : Int).toNat : List (S39))).bind fun y502 => ((history_Ops.f t496).bind fun bt506 => ((history_Ops.f y502).bind fun bt510 => (if bt506.2 = 0 then (if bt510.2 = 0 then ((history_Valid.f y502).bind fun t514 => (if t514 = true then (tegulalaw45_HistoryPrefixes.j0 k bt506.1 bt510.1 (decide ((bt510.1.length : Int) > (bt506.1.length : Int)))) else (tegulalaw45_HistoryPrefixes.j0 k bt506.1 bt510.1 true))) else (tegulalaw45_HistoryPrefixes.j0 k bt506.1 bt510.1 true)) else (tegulalaw45_HistoryPrefixes.j0 k bt506.1 bt510.1 true))))) else (none)) else (none))) = some r := H
      have A7 := Aside0.mk A70
      clear A70
      by_cases c8 : (wrap64 ((t496.length : Int) + 1)) = 0
      · rw [if_pos c8] at H
        exact absurd H (by simp)
      · rw [if_neg c8] at H
        have c8b0 : ((wrap64 ((t496.length : Int) + 1)) == 0) = false := beq_eq_false_iff_ne.mpr c8
        have c8b1 : ((wrap64 ((t496.length : Int) + 1)) != 0) = true := bne_iff_ne.mpr c8
        obtain ⟨ji9, hji9⟩ : ∃ j_ : Int, (Int.tmod (wrap64 (a1)) (wrap64 ((t496.length : Int) + 1))) = j_ := ⟨_, rfl⟩
        replace H : (if 0 ≤ (ji9) then (if (ji9) ≤ (t496.length : Int) then ((some (t496.take ((ji9) : Int).toNat : List (S39))).bind fun y502 => ((history_Ops.f t496).bind fun bt506 => ((history_Ops.f y502).bind fun bt510 => (if bt506.2 = 0 then (if bt510.2 = 0 then ((history_Valid.f y502).bind fun t514 => (if t514 = true then (tegulalaw45_HistoryPrefixes.j0 k bt506.1 bt510.1 (decide ((bt510.1.length : Int) > (bt506.1.length : Int)))) else (tegulalaw45_HistoryPrefixes.j0 k bt506.1 bt510.1 true))) else (tegulalaw45_HistoryPrefixes.j0 k bt506.1 bt510.1 true)) else (tegulalaw45_HistoryPrefixes.j0 k bt506.1 bt510.1 true))))) else (none)) else (none)) = some r := by first | (rw [hji9] at H; exact H) | (simp only [hji9] at H ⊢; exact H)
        (try rw [hji9] at A3)
        (try rw [hji9] at A7)
        by_cases c10 : 0 ≤ (ji9)
        · rw [if_pos c10] at H
          have c10b0 := eq_true c10
          have c10b1 : decide (0 ≤ (ji9)) = true := decide_eq_true c10
          clear c10
          by_cases c11 : (ji9) ≤ (t496.length : Int)
          · rw [if_pos c11] at H
            have c11b0 := eq_true c11
            have c11b1 : decide ((ji9) ≤ (t496.length : Int)) = true := decide_eq_true c11
            clear c11
            obtain ⟨y502, hy502⟩ : ∃ y_ : List (S39), y_ = (t496.take ((ji9) : Int).toNat) := ⟨_, rfl⟩
            replace H : ((history_Ops.f t496).bind fun bt506 => ((history_Ops.f y502).bind fun bt510 => (if bt506.2 = 0 then (if bt510.2 = 0 then ((history_Valid.f y502).bind fun t514 => (if t514 = true then (tegulalaw45_HistoryPrefixes.j0 k bt506.1 bt510.1 (decide ((bt510.1.length : Int) > (bt506.1.length : Int)))) else (tegulalaw45_HistoryPrefixes.j0 k bt506.1 bt510.1 true))) else (tegulalaw45_HistoryPrefixes.j0 k bt506.1 bt510.1 true)) else (tegulalaw45_HistoryPrefixes.j0 k bt506.1 bt510.1 true)))) = some r := by first | (rw [hy502]; with_reducible exact H) | (have H2_ := (Option.bind_some _ _).symm.trans H; rw [hy502]; with_reducible exact H2_) | (have H2_ := (Option.bind_some _ _).symm.trans H; with_reducible exact H2_) | with_reducible exact H | (rw [hy502]; exact H) | exact H
            have Ny502 := Aside0.mk hy502
            clear hy502
            replace H := Option.bind_eq_some_iff.mp H
            obtain ⟨⟨t506, t507⟩, A120, H⟩ := H
            replace H : ((history_Ops.f y502).bind fun bt510 => (if t507 = 0 then (if bt510.2 = 0 then ((history_Valid.f y502).bind fun t514 => (if t514 = true then (tegulalaw45_HistoryPrefixes.j0 k t506 bt510.1 (decide ((bt510.1.length : Int) > (t506.length : Int)))) else (tegulalaw45_HistoryPrefixes.j0 k t506 bt510.1 true))) else (tegulalaw45_HistoryPrefixes.j0 k t506 bt510.1 true)) else (tegulalaw45_HistoryPrefixes.j0 k t506 bt510.1 true))) = some r := H
            have A12 := Aside0.mk A120
            clear A120
            replace H := Option.bind_eq_some_iff.mp H
            obtain ⟨⟨t510, t511⟩, A130, H⟩ := H
            replace H : (if t507 = 0 then (if t511 = 0 then ((history_Valid.f y502).bind fun t514 => (if t514 = true then (tegulalaw45_HistoryPrefixes.j0 k t506 t510 (decide ((t510.length : Int) > (t506.length : Int)))) else (tegulalaw45_HistoryPrefixes.j0 k t506 t510 true))) else (tegulalaw45_HistoryPrefixes.j0 k t506 t510 true)) else (tegulalaw45_HistoryPrefixes.j0 k t506 t510 true)) = some r := H
            have A13 := Aside0.mk A130
            clear A130
            have HC14 := Aside0.mk H
            clear H
            go_enter Try.func12, Try.ntmps12
            go_upto_region 9 with (first | (go_at_call 31; (with_reducible refine (tegulalaw45_awake.calls  true _ A3.out).mono ?_); rintro e w15 ⟨rfl, hb⟩; have n0_ := Aside0.mk (below_step (by repeat (first | (with_reducible first | exact HB.out | apply below_alloc | apply pw_below_drewN | apply below_drew1) | exact HB.out)) hb); clear HB; have HB := n0_; clear n0_; (try clear hb); (try clear hb2); (try clear hk); (try clear hi)) | (go_at_call 35; (with_reducible refine (tegularef45_Record.calls _ _ l0 t496 t497 _ ?side1 ?side2 A7.out).mono ?_); (case side1 => repeat (first | exact (Kd.C_below HR0.out HB.out) | (with_reducible refine Kd.C_alloc ?_ _) | (with_reducible refine Kd.C_drewN ?_ _) | (with_reducible refine Kd.C_drew ?_))); (case side2 => exact HC0.out); rintro e w16 ⟨v498, v500, rfl, ho0, ho1, hb⟩; have n0_ := Aside0.mk (Kd.R_lower ho0 (below_size (by repeat (first | (with_reducible first | exact HB.out | apply below_alloc | apply pw_below_drewN | apply below_drew1) | exact HB.out)))); have n1_ := Aside0.mk (Kd.R_lower ho1 (below_size (by repeat (first | (with_reducible first | exact HB.out | apply below_alloc | apply pw_below_drewN | apply below_drew1) | exact HB.out)))); have n2_ := Aside0.mk (below_step (by repeat (first | (with_reducible first | exact HB.out | apply below_alloc | apply pw_below_drewN | apply below_drew1) | exact HB.out)) hb); clear HB; have HO499 := n0_; have HO501 := n1_; have HB := n2_; clear n0_ n1_ n2_; (try clear hb); (try clear hb2); (try clear hk); (try clear hi); (try clear ho0); (try clear ho1); obtain ⟨Ao17, co17, eo17⟩ := Kd.R_slice HO499.out; subst eo17; have q18 : ((ji9) : Int) ≤ ((t496.length : Int) : Int) := of_decide_eq_true (by first | (with_reducible assumption) | assumption); obtain ⟨i018, hi018, _, hsz18, _⟩ := info_parts info39; have hroom18 : t496.length ≤ co17 := (Kd.R_reads' HO499.out).2.1; have hC18 : Kd.C k39 _ Ao17 t496.length t496 := (Kd.R_reads' HO499.out).2.2; have hcut18 := cut_to (P := Try.prog) 22 39 .i64 Try.underlying22 hi018 Ao17 t496.length co17 (ji9) (of_decide_eq_true (by first | (with_reducible assumption) | assumption)) q18 hroom18; have hr18 := Kd.C_take (m := ((ji9) : Int).toNat) hC18 (by omega); have hy18 : y502.length = ((ji9) : Int).toNat := (by rw [Ny502.out, List.length_take]; omega); rw [← Ny502.out] at hr18; rw [← hy18] at hcut18; have HR505 := Aside0.mk hr18; have HC505 := Aside0.mk (show y502.length ≤ co17 from by omega); clear hr18 hC18 hroom18 hi018 hsz18; have KY18 := Aside0.mk hy18; clear hy18; have KL18 := Aside0.mk (show ((ji9) : Int).toNat ≤ t496.length from by omega); replace q18 := eq_true q18) | (go_at_call 32; (with_reducible refine (history_Ops.calls _ _ t496 t506 t507 _ ?side1 ?side2 A12.out).mono ?_); (case side1 => repeat (first | exact (Kd.R_reads' HO499.out).2.2 | (with_reducible refine Kd.C_alloc ?_ _) | (with_reducible refine Kd.C_drewN ?_ _) | (with_reducible refine Kd.C_drew ?_))); (case side2 => exact (Kd.R_reads' HO499.out).2.1); rintro e w19 ⟨v508, rfl, ho0, hb⟩; have n0_ := Aside0.mk (Kd.R_below (by (with_reducible repeat (first | apply Kd.R_alloc | apply Kd.R_drewN | apply Kd.R_drew)); exact HO499.out) hb); have n1_ := Aside0.mk (Kd.R_below (by (with_reducible repeat (first | apply Kd.R_alloc | apply Kd.R_drewN | apply Kd.R_drew)); exact HO501.out) hb); have n2_ := Aside0.mk (Kd.R_lower ho0 (below_size (by repeat (first | (with_reducible first | exact HB.out | apply below_alloc | apply pw_below_drewN | apply below_drew1) | exact HB.out)))); have n3_ := Aside0.mk (Kd.C_below (by repeat (first | (with_reducible exact HR505.out) | (with_reducible refine Kd.C_alloc ?_ _) | (with_reducible refine Kd.C_drewN ?_ _) | (with_reducible refine Kd.C_drew ?_) | exact HR505.out)) hb); have n4_ := Aside0.mk (below_step (by repeat (first | (with_reducible first | exact HB.out | apply below_alloc | apply pw_below_drewN | apply below_drew1) | exact HB.out)) hb); clear HO499; clear HO501; clear HR505; clear HB; have HO499 := n0_; have HO501 := n1_; have HO509 := n2_; have HR505 := n3_; have HB := n4_; clear n0_ n1_ n2_ n3_ n4_; (try clear hb); (try clear hb2); (try clear hk); (try clear hi); (try clear ho0)) | (go_at_call 32; (with_reducible refine (history_Ops.calls _ _ y502 t510 t511 _ ?side1 ?side2 A13.out).mono ?_); (case side1 => repeat (first | exact (by repeat (first | (with_reducible exact HR505.out) | (with_reducible refine Kd.C_alloc ?_ _) | (with_reducible refine Kd.C_drewN ?_ _) | (with_reducible refine Kd.C_drew ?_) | exact HR505.out)) | (with_reducible refine Kd.C_alloc ?_ _) | (with_reducible refine Kd.C_drewN ?_ _) | (with_reducible refine Kd.C_drew ?_))); (case side2 => exact HC505.out); rintro e w20 ⟨v512, rfl, ho0, hb⟩; have n0_ := Aside0.mk (Kd.R_below (by (with_reducible repeat (first | apply Kd.R_alloc | apply Kd.R_drewN | apply Kd.R_drew)); exact HO499.out) hb); have n1_ := Aside0.mk (Kd.R_below (by (with_reducible repeat (first | apply Kd.R_alloc | apply Kd.R_drewN | apply Kd.R_drew)); exact HO501.out) hb); have n2_ := Aside0.mk (Kd.R_elder' (by (with_reducible repeat (first | apply Kd.R_alloc | apply Kd.R_drewN | apply Kd.R_drew)); exact HO509.out) (Kd.R_base ho0) hb); have n3_ := Aside0.mk (Kd.R_lower (Kd.R_new' ho0 (Kd.R_lt (by (with_reducible repeat (first | apply Kd.R_alloc | apply Kd.R_drewN | apply Kd.R_drew)); exact HO509.out))) (below_size (by repeat (first | (with_reducible first | exact HB.out | apply below_alloc | apply pw_below_drewN | apply below_drew1) | exact HB.out)))); have n4_ := Aside0.mk (Kd.C_below (by repeat (first | (with_reducible exact HR505.out) | (with_reducible refine Kd.C_alloc ?_ _) | (with_reducible refine Kd.C_drewN ?_ _) | (with_reducible refine Kd.C_drew ?_) | exact HR505.out)) hb); have n5_ := Aside0.mk (below_step (by repeat (first | (with_reducible first | exact HB.out | apply below_alloc | apply pw_below_drewN | apply below_drew1) | exact HB.out)) hb); clear HO499; clear HO501; clear HO509; clear HR505; clear HB; have HO499 := n0_; have HO501 := n1_; have HO509 := n2_; have HO513 := n3_; have HR505 := n4_; have HB := n5_; clear n0_ n1_ n2_ n3_ n4_ n5_; (try clear hb); (try clear hb2); (try clear hk); (try clear hi); (try clear ho0)))
            repeat (go_quiet (first | (go_at_call 31; (with_reducible refine (tegulalaw45_awake.calls  true _ A3.out).mono ?_); rintro e w15 ⟨rfl, hb⟩; have n0_ := Aside0.mk (below_step (by repeat (first | (with_reducible first | exact HB.out | apply below_alloc | apply pw_below_drewN | apply below_drew1) | exact HB.out)) hb); clear HB; have HB := n0_; clear n0_; (try clear hb); (try clear hb2); (try clear hk); (try clear hi)) | (go_at_call 35; (with_reducible refine (tegularef45_Record.calls _ _ l0 t496 t497 _ ?side1 ?side2 A7.out).mono ?_); (case side1 => repeat (first | exact (Kd.C_below HR0.out HB.out) | (with_reducible refine Kd.C_alloc ?_ _) | (with_reducible refine Kd.C_drewN ?_ _) | (with_reducible refine Kd.C_drew ?_))); (case side2 => exact HC0.out); rintro e w16 ⟨v498, v500, rfl, ho0, ho1, hb⟩; have n0_ := Aside0.mk (Kd.R_lower ho0 (below_size (by repeat (first | (with_reducible first | exact HB.out | apply below_alloc | apply pw_below_drewN | apply below_drew1) | exact HB.out)))); have n1_ := Aside0.mk (Kd.R_lower ho1 (below_size (by repeat (first | (with_reducible first | exact HB.out | apply below_alloc | apply pw_below_drewN | apply below_drew1) | exact HB.out)))); have n2_ := Aside0.mk (below_step (by repeat (first | (with_reducible first | exact HB.out | apply below_alloc | apply pw_below_drewN | apply below_drew1) | exact HB.out)) hb); clear HB; have HO499 := n0_; have HO501 := n1_; have HB := n2_; clear n0_ n1_ n2_; (try clear hb); (try clear hb2); (try clear hk); (try clear hi); (try clear ho0); (try clear ho1); obtain ⟨Ao17, co17, eo17⟩ := Kd.R_slice HO499.out; subst eo17; have q18 : ((ji9) : Int) ≤ ((t496.length : Int) : Int) := of_decide_eq_true (by first | (with_reducible assumption) | assumption); obtain ⟨i018, hi018, _, hsz18, _⟩ := info_parts info39; have hroom18 : t496.length ≤ co17 := (Kd.R_reads' HO499.out).2.1; have hC18 : Kd.C k39 _ Ao17 t496.length t496 := (Kd.R_reads' HO499.out).2.2; have hcut18 := cut_to (P := Try.prog) 22 39 .i64 Try.underlying22 hi018 Ao17 t496.length co17 (ji9) (of_decide_eq_true (by first | (with_reducible assumption) | assumption)) q18 hroom18; have hr18 := Kd.C_take (m := ((ji9) : Int).toNat) hC18 (by omega); have hy18 : y502.length = ((ji9) : Int).toNat := (by rw [Ny502.out, List.length_take]; omega); rw [← Ny502.out] at hr18; rw [← hy18] at hcut18; have HR505 := Aside0.mk hr18; have HC505 := Aside0.mk (show y502.length ≤ co17 from by omega); clear hr18 hC18 hroom18 hi018 hsz18; have KY18 := Aside0.mk hy18; clear hy18; have KL18 := Aside0.mk (show ((ji9) : Int).toNat ≤ t496.length from by omega); replace q18 := eq_true q18) | (go_at_call 32; (with_reducible refine (history_Ops.calls _ _ t496 t506 t507 _ ?side1 ?side2 A12.out).mono ?_); (case side1 => repeat (first | exact (Kd.R_reads' HO499.out).2.2 | (with_reducible refine Kd.C_alloc ?_ _) | (with_reducible refine Kd.C_drewN ?_ _) | (with_reducible refine Kd.C_drew ?_))); (case side2 => exact (Kd.R_reads' HO499.out).2.1); rintro e w19 ⟨v508, rfl, ho0, hb⟩; have n0_ := Aside0.mk (Kd.R_below (by (with_reducible repeat (first | apply Kd.R_alloc | apply Kd.R_drewN | apply Kd.R_drew)); exact HO499.out) hb); have n1_ := Aside0.mk (Kd.R_below (by (with_reducible repeat (first | apply Kd.R_alloc | apply Kd.R_drewN | apply Kd.R_drew)); exact HO501.out) hb); have n2_ := Aside0.mk (Kd.R_lower ho0 (below_size (by repeat (first | (with_reducible first | exact HB.out | apply below_alloc | apply pw_below_drewN | apply below_drew1) | exact HB.out)))); have n3_ := Aside0.mk (Kd.C_below (by repeat (first | (with_reducible exact HR505.out) | (with_reducible refine Kd.C_alloc ?_ _) | (with_reducible refine Kd.C_drewN ?_ _) | (with_reducible refine Kd.C_drew ?_) | exact HR505.out)) hb); have n4_ := Aside0.mk (below_step (by repeat (first | (with_reducible first | exact HB.out | apply below_alloc | apply pw_below_drewN | apply below_drew1) | exact HB.out)) hb); clear HO499; clear HO501; clear HR505; clear HB; have HO499 := n0_; have HO501 := n1_; have HO509 := n2_; have HR505 := n3_; have HB := n4_; clear n0_ n1_ n2_ n3_ n4_; (try clear hb); (try clear hb2); (try clear hk); (try clear hi); (try clear ho0)) | (go_at_call 32; (with_reducible refine (history_Ops.calls _ _ y502 t510 t511 _ ?side1 ?side2 A13.out).mono ?_); (case side1 => repeat (first | exact (by repeat (first | (with_reducible exact HR505.out) | (with_reducible refine Kd.C_alloc ?_ _) | (with_reducible refine Kd.C_drewN ?_ _) | (with_reducible refine Kd.C_drew ?_) | exact HR505.out)) | (with_reducible refine Kd.C_alloc ?_ _) | (with_reducible refine Kd.C_drewN ?_ _) | (with_reducible refine Kd.C_drew ?_))); (case side2 => exact HC505.out); rintro e w20 ⟨v512, rfl, ho0, hb⟩; have n0_ := Aside0.mk (Kd.R_below (by (with_reducible repeat (first | apply Kd.R_alloc | apply Kd.R_drewN | apply Kd.R_drew)); exact HO499.out) hb); have n1_ := Aside0.mk (Kd.R_below (by (with_reducible repeat (first | apply Kd.R_alloc | apply Kd.R_drewN | apply Kd.R_drew)); exact HO501.out) hb); have n2_ := Aside0.mk (Kd.R_elder' (by (with_reducible repeat (first | apply Kd.R_alloc | apply Kd.R_drewN | apply Kd.R_drew)); exact HO509.out) (Kd.R_base ho0) hb); have n3_ := Aside0.mk (Kd.R_lower (Kd.R_new' ho0 (Kd.R_lt (by (with_reducible repeat (first | apply Kd.R_alloc | apply Kd.R_drewN | apply Kd.R_drew)); exact HO509.out))) (below_size (by repeat (first | (with_reducible first | exact HB.out | apply below_alloc | apply pw_below_drewN | apply below_drew1) | exact HB.out)))); have n4_ := Aside0.mk (Kd.C_below (by repeat (first | (with_reducible exact HR505.out) | (with_reducible refine Kd.C_alloc ?_ _) | (with_reducible refine Kd.C_drewN ?_ _) | (with_reducible refine Kd.C_drew ?_) | exact HR505.out)) hb); have n5_ := Aside0.mk (below_step (by repeat (first | (with_reducible first | exact HB.out | apply below_alloc | apply pw_below_drewN | apply below_drew1) | exact HB.out)) hb); clear HO499; clear HO501; clear HO509; clear HR505; clear HB; have HO499 := n0_; have HO501 := n1_; have HO509 := n2_; have HO513 := n3_; have HR505 := n4_; have HB := n5_; clear n0_ n1_ n2_ n3_ n4_ n5_; (try clear hb); (try clear hb2); (try clear hk); (try clear hi); (try clear ho0))); go_upto_region 9 with (first | (go_at_call 31; (with_reducible refine (tegulalaw45_awake.calls  true _ A3.out).mono ?_); rintro e w15 ⟨rfl, hb⟩; have n0_ := Aside0.mk (below_step (by repeat (first | (with_reducible first | exact HB.out | apply below_alloc | apply pw_below_drewN | apply below_drew1) | exact HB.out)) hb); clear HB; have HB := n0_; clear n0_; (try clear hb); (try clear hb2); (try clear hk); (try clear hi)) | (go_at_call 35; (with_reducible refine (tegularef45_Record.calls _ _ l0 t496 t497 _ ?side1 ?side2 A7.out).mono ?_); (case side1 => repeat (first | exact (Kd.C_below HR0.out HB.out) | (with_reducible refine Kd.C_alloc ?_ _) | (with_reducible refine Kd.C_drewN ?_ _) | (with_reducible refine Kd.C_drew ?_))); (case side2 => exact HC0.out); rintro e w16 ⟨v498, v500, rfl, ho0, ho1, hb⟩; have n0_ := Aside0.mk (Kd.R_lower ho0 (below_size (by repeat (first | (with_reducible first | exact HB.out | apply below_alloc | apply pw_below_drewN | apply below_drew1) | exact HB.out)))); have n1_ := Aside0.mk (Kd.R_lower ho1 (below_size (by repeat (first | (with_reducible first | exact HB.out | apply below_alloc | apply pw_below_drewN | apply below_drew1) | exact HB.out)))); have n2_ := Aside0.mk (below_step (by repeat (first | (with_reducible first | exact HB.out | apply below_alloc | apply pw_below_drewN | apply below_drew1) | exact HB.out)) hb); clear HB; have HO499 := n0_; have HO501 := n1_; have HB := n2_; clear n0_ n1_ n2_; (try clear hb); (try clear hb2); (try clear hk); (try clear hi); (try clear ho0); (try clear ho1); obtain ⟨Ao17, co17, eo17⟩ := Kd.R_slice HO499.out; subst eo17; have q18 : ((ji9) : Int) ≤ ((t496.length : Int) : Int) := of_decide_eq_true (by first | (with_reducible assumption) | assumption); obtain ⟨i018, hi018, _, hsz18, _⟩ := info_parts info39; have hroom18 : t496.length ≤ co17 := (Kd.R_reads' HO499.out).2.1; have hC18 : Kd.C k39 _ Ao17 t496.length t496 := (Kd.R_reads' HO499.out).2.2; have hcut18 := cut_to (P := Try.prog) 22 39 .i64 Try.underlying22 hi018 Ao17 t496.length co17 (ji9) (of_decide_eq_true (by first | (with_reducible assumption) | assumption)) q18 hroom18; have hr18 := Kd.C_take (m := ((ji9) : Int).toNat) hC18 (by omega); have hy18 : y502.length = ((ji9) : Int).toNat := (by rw [Ny502.out, List.length_take]; omega); rw [← Ny502.out] at hr18; rw [← hy18] at hcut18; have HR505 := Aside0.mk hr18; have HC505 := Aside0.mk (show y502.length ≤ co17 from by omega); clear hr18 hC18 hroom18 hi018 hsz18; have KY18 := Aside0.mk hy18; clear hy18; have KL18 := Aside0.mk (show ((ji9) : Int).toNat ≤ t496.length from by omega); replace q18 := eq_true q18) | (go_at_call 32; (with_reducible refine (history_Ops.calls _ _ t496 t506 t507 _ ?side1 ?side2 A12.out).mono ?_); (case side1 => repeat (first | exact (Kd.R_reads' HO499.out).2.2 | (with_reducible refine Kd.C_alloc ?_ _) | (with_reducible refine Kd.C_drewN ?_ _) | (with_reducible refine Kd.C_drew ?_))); (case side2 => exact (Kd.R_reads' HO499.out).2.1); rintro e w19 ⟨v508, rfl, ho0, hb⟩; have n0_ := Aside0.mk (Kd.R_below (by (with_reducible repeat (first | apply Kd.R_alloc | apply Kd.R_drewN | apply Kd.R_drew)); exact HO499.out) hb); have n1_ := Aside0.mk (Kd.R_below (by (with_reducible repeat (first | apply Kd.R_alloc | apply Kd.R_drewN | apply Kd.R_drew)); exact HO501.out) hb); have n2_ := Aside0.mk (Kd.R_lower ho0 (below_size (by repeat (first | (with_reducible first | exact HB.out | apply below_alloc | apply pw_below_drewN | apply below_drew1) | exact HB.out)))); have n3_ := Aside0.mk (Kd.C_below (by repeat (first | (with_reducible exact HR505.out) | (with_reducible refine Kd.C_alloc ?_ _) | (with_reducible refine Kd.C_drewN ?_ _) | (with_reducible refine Kd.C_drew ?_) | exact HR505.out)) hb); have n4_ := Aside0.mk (below_step (by repeat (first | (with_reducible first | exact HB.out | apply below_alloc | apply pw_below_drewN | apply below_drew1) | exact HB.out)) hb); clear HO499; clear HO501; clear HR505; clear HB; have HO499 := n0_; have HO501 := n1_; have HO509 := n2_; have HR505 := n3_; have HB := n4_; clear n0_ n1_ n2_ n3_ n4_; (try clear hb); (try clear hb2); (try clear hk); (try clear hi); (try clear ho0)) | (go_at_call 32; (with_reducible refine (history_Ops.calls _ _ y502 t510 t511 _ ?side1 ?side2 A13.out).mono ?_); (case side1 => repeat (first | exact (by repeat (first | (with_reducible exact HR505.out) | (with_reducible refine Kd.C_alloc ?_ _) | (with_reducible refine Kd.C_drewN ?_ _) | (with_reducible refine Kd.C_drew ?_) | exact HR505.out)) | (with_reducible refine Kd.C_alloc ?_ _) | (with_reducible refine Kd.C_drewN ?_ _) | (with_reducible refine Kd.C_drew ?_))); (case side2 => exact HC505.out); rintro e w20 ⟨v512, rfl, ho0, hb⟩; have n0_ := Aside0.mk (Kd.R_below (by (with_reducible repeat (first | apply Kd.R_alloc | apply Kd.R_drewN | apply Kd.R_drew)); exact HO499.out) hb); have n1_ := Aside0.mk (Kd.R_below (by (with_reducible repeat (first | apply Kd.R_alloc | apply Kd.R_drewN | apply Kd.R_drew)); exact HO501.out) hb); have n2_ := Aside0.mk (Kd.R_elder' (by (with_reducible repeat (first | apply Kd.R_alloc | apply Kd.R_drewN | apply Kd.R_drew)); exact HO509.out) (Kd.R_base ho0) hb); have n3_ := Aside0.mk (Kd.R_lower (Kd.R_new' ho0 (Kd.R_lt (by (with_reducible repeat (first | apply Kd.R_alloc | apply Kd.R_drewN | apply Kd.R_drew)); exact HO509.out))) (below_size (by repeat (first | (with_reducible first | exact HB.out | apply below_alloc | apply pw_below_drewN | apply below_drew1) | exact HB.out)))); have n4_ := Aside0.mk (Kd.C_below (by repeat (first | (with_reducible exact HR505.out) | (with_reducible refine Kd.C_alloc ?_ _) | (with_reducible refine Kd.C_drewN ?_ _) | (with_reducible refine Kd.C_drew ?_) | exact HR505.out)) hb); have n5_ := Aside0.mk (below_step (by repeat (first | (with_reducible first | exact HB.out | apply below_alloc | apply pw_below_drewN | apply below_drew1) | exact HB.out)) hb); clear HO499; clear HO501; clear HO509; clear HR505; clear HB; have HO499 := n0_; have HO501 := n1_; have HO509 := n2_; have HO513 := n3_; have HR505 := n4_; have HB := n5_; clear n0_ n1_ n2_ n3_ n4_ n5_; (try clear hb); (try clear hb2); (try clear hk); (try clear hi); (try clear ho0))))
            (try simp only [Act.put, List.setIfInBounds_toArray, List.set_cons_zero, List.set_cons_succ])
            go_cut [58] (fun v58 wc => ∃ (kq : Nat) (x58_13 : Bool), v58 = .bool x58_13 ∧ Aside0 (tegulalaw45_HistoryPrefixes.j0 kq t506 t510 x58_13 = some r) ∧ Aside0 (kq ≤ k) ∧ Aside0 (Kd.R k60 60 wc w.heap.size (fun k_ => some k_ ≠ (v512 : Value).ownBlock) v508 t506) ∧ Aside0 (Kd.R k60 60 wc w.heap.size (fun k_ => some k_ ≠ (v508 : Value).ownBlock) v512 t510) ∧ Aside0 (Kd.C k39 wc Ao17 y502.length y502) ∧ Aside0 (Below w.heap.size w wc))
            case first =>
              have H := HC14.out
              clear HC14
              by_cases c21 : t507 = 0
              · rw [if_pos c21] at H
                have c21b0 : (t507 == 0) = true := beq_iff_eq.mpr c21
                have c21b1 : (t507 != 0) = false := bne_eq_false_iff_eq.mpr c21
                clear c21
                (first | rw [c21b0] | (simp only [i64_w, i32_w]; rw [c21b0]) | skip)
                by_cases c22 : t511 = 0
                · rw [if_pos c22] at H
                  have c22b0 : (t511 == 0) = true := beq_iff_eq.mpr c22
                  have c22b1 : (t511 != 0) = false := bne_eq_false_iff_eq.mpr c22
                  clear c22
                  replace H := Option.bind_eq_some_iff.mp H
                  obtain ⟨t514, A230, H⟩ := H
                  replace H : (if t514 = true then (tegulalaw45_HistoryPrefixes.j0 k t506 t510 (decide ((t510.length : Int) > (t506.length : Int)))) else (tegulalaw45_HistoryPrefixes.j0 k t506 t510 true)) = some r := H
                  have A23 := Aside0.mk A230
                  clear A230
                  by_cases c24 : t514 = true
                  · subst c24
                    have H1 : (tegulalaw45_HistoryPrefixes.j0 k t506 t510 (decide ((t510.length : Int) > (t506.length : Int)))) = some r := by rw [if_pos rfl] at H; exact H
                    clear H
                    have H := H1
                    clear H1
                    have H' := Aside0.mk H
                    clear H
                    go_wp2_with (first | (go_at_call 39; (with_reducible refine (history_Valid.calls _ _ y502 true _ ?side1 ?side2 A23.out).mono ?_); (case side1 => repeat (first | exact (by repeat (first | (with_reducible exact HR505.out) | (with_reducible refine Kd.C_alloc ?_ _) | (with_reducible refine Kd.C_drewN ?_ _) | (with_reducible refine Kd.C_drew ?_) | exact HR505.out)) | (with_reducible refine Kd.C_alloc ?_ _) | (with_reducible refine Kd.C_drewN ?_ _) | (with_reducible refine Kd.C_drew ?_))); (case side2 => exact HC505.out); rintro e w25 ⟨rfl, hb⟩; have n0_ := Aside0.mk (Kd.R_below (by (with_reducible repeat (first | apply Kd.R_alloc | apply Kd.R_drewN | apply Kd.R_drew)); exact HO499.out) hb); have n1_ := Aside0.mk (Kd.R_below (by (with_reducible repeat (first | apply Kd.R_alloc | apply Kd.R_drewN | apply Kd.R_drew)); exact HO501.out) hb); have n2_ := Aside0.mk (Kd.R_below (by (with_reducible repeat (first | apply Kd.R_alloc | apply Kd.R_drewN | apply Kd.R_drew)); exact HO509.out) hb); have n3_ := Aside0.mk (Kd.R_below (by (with_reducible repeat (first | apply Kd.R_alloc | apply Kd.R_drewN | apply Kd.R_drew)); exact HO513.out) hb); have n4_ := Aside0.mk (Kd.C_below (by repeat (first | (with_reducible exact HR505.out) | (with_reducible refine Kd.C_alloc ?_ _) | (with_reducible refine Kd.C_drewN ?_ _) | (with_reducible refine Kd.C_drew ?_) | exact HR505.out)) hb); have n5_ := Aside0.mk (below_step (by repeat (first | (with_reducible first | exact HB.out | apply below_alloc | apply pw_below_drewN | apply below_drew1) | exact HB.out)) hb); clear HO499; clear HO501; clear HO509; clear HO513; clear HR505; clear HB; have HO499 := n0_; have HO501 := n1_; have HO509 := n2_; have HO513 := n3_; have HR505 := n4_; have HB := n5_; clear n0_ n1_ n2_ n3_ n4_ n5_; (try clear hb); (try clear hb2); (try clear hk); (try clear hi); obtain ⟨Ao26, co26, eo26⟩ := Kd.R_slice HO513.out; subst eo26; obtain ⟨Ao27, co27, eo27⟩ := Kd.R_slice HO509.out; subst eo27))
                    repeat (go_quiet (first | (go_at_call 39; (with_reducible refine (history_Valid.calls _ _ y502 true _ ?side1 ?side2 A23.out).mono ?_); (case side1 => repeat (first | exact (by repeat (first | (with_reducible exact HR505.out) | (with_reducible refine Kd.C_alloc ?_ _) | (with_reducible refine Kd.C_drewN ?_ _) | (with_reducible refine Kd.C_drew ?_) | exact HR505.out)) | (with_reducible refine Kd.C_alloc ?_ _) | (with_reducible refine Kd.C_drewN ?_ _) | (with_reducible refine Kd.C_drew ?_))); (case side2 => exact HC505.out); rintro e w25 ⟨rfl, hb⟩; have n0_ := Aside0.mk (Kd.R_below (by (with_reducible repeat (first | apply Kd.R_alloc | apply Kd.R_drewN | apply Kd.R_drew)); exact HO499.out) hb); have n1_ := Aside0.mk (Kd.R_below (by (with_reducible repeat (first | apply Kd.R_alloc | apply Kd.R_drewN | apply Kd.R_drew)); exact HO501.out) hb); have n2_ := Aside0.mk (Kd.R_below (by (with_reducible repeat (first | apply Kd.R_alloc | apply Kd.R_drewN | apply Kd.R_drew)); exact HO509.out) hb); have n3_ := Aside0.mk (Kd.R_below (by (with_reducible repeat (first | apply Kd.R_alloc | apply Kd.R_drewN | apply Kd.R_drew)); exact HO513.out) hb); have n4_ := Aside0.mk (Kd.C_below (by repeat (first | (with_reducible exact HR505.out) | (with_reducible refine Kd.C_alloc ?_ _) | (with_reducible refine Kd.C_drewN ?_ _) | (with_reducible refine Kd.C_drew ?_) | exact HR505.out)) hb); have n5_ := Aside0.mk (below_step (by repeat (first | (with_reducible first | exact HB.out | apply below_alloc | apply pw_below_drewN | apply below_drew1) | exact HB.out)) hb); clear HO499; clear HO501; clear HO509; clear HO513; clear HR505; clear HB; have HO499 := n0_; have HO501 := n1_; have HO509 := n2_; have HO513 := n3_; have HR505 := n4_; have HB := n5_; clear n0_ n1_ n2_ n3_ n4_ n5_; (try clear hb); (try clear hb2); (try clear hk); (try clear hi); obtain ⟨Ao26, co26, eo26⟩ := Kd.R_slice HO513.out; subst eo26; obtain ⟨Ao27, co27, eo27⟩ := Kd.R_slice HO509.out; subst eo27)); try go_wp2_with (first | (go_at_call 39; (with_reducible refine (history_Valid.calls _ _ y502 true _ ?side1 ?side2 A23.out).mono ?_); (case side1 => repeat (first | exact (by repeat (first | (with_reducible exact HR505.out) | (with_reducible refine Kd.C_alloc ?_ _) | (with_reducible refine Kd.C_drewN ?_ _) | (with_reducible refine Kd.C_drew ?_) | exact HR505.out)) | (with_reducible refine Kd.C_alloc ?_ _) | (with_reducible refine Kd.C_drewN ?_ _) | (with_reducible refine Kd.C_drew ?_))); (case side2 => exact HC505.out); rintro e w25 ⟨rfl, hb⟩; have n0_ := Aside0.mk (Kd.R_below (by (with_reducible repeat (first | apply Kd.R_alloc | apply Kd.R_drewN | apply Kd.R_drew)); exact HO499.out) hb); have n1_ := Aside0.mk (Kd.R_below (by (with_reducible repeat (first | apply Kd.R_alloc | apply Kd.R_drewN | apply Kd.R_drew)); exact HO501.out) hb); have n2_ := Aside0.mk (Kd.R_below (by (with_reducible repeat (first | apply Kd.R_alloc | apply Kd.R_drewN | apply Kd.R_drew)); exact HO509.out) hb); have n3_ := Aside0.mk (Kd.R_below (by (with_reducible repeat (first | apply Kd.R_alloc | apply Kd.R_drewN | apply Kd.R_drew)); exact HO513.out) hb); have n4_ := Aside0.mk (Kd.C_below (by repeat (first | (with_reducible exact HR505.out) | (with_reducible refine Kd.C_alloc ?_ _) | (with_reducible refine Kd.C_drewN ?_ _) | (with_reducible refine Kd.C_drew ?_) | exact HR505.out)) hb); have n5_ := Aside0.mk (below_step (by repeat (first | (with_reducible first | exact HB.out | apply below_alloc | apply pw_below_drewN | apply below_drew1) | exact HB.out)) hb); clear HO499; clear HO501; clear HO509; clear HO513; clear HR505; clear HB; have HO499 := n0_; have HO501 := n1_; have HO509 := n2_; have HO513 := n3_; have HR505 := n4_; have HB := n5_; clear n0_ n1_ n2_ n3_ n4_ n5_; (try clear hb); (try clear hb2); (try clear hk); (try clear hi); obtain ⟨Ao26, co26, eo26⟩ := Kd.R_slice HO513.out; subst eo26; obtain ⟨Ao27, co27, eo27⟩ := Kd.R_slice HO509.out; subst eo27)))
                    go_meet
                    case rel => exact ⟨_, (decide ((t510.length : Int) > (t506.length : Int))), (by first | rfl | (simp; done) | (simp [*]; done)), H', ⟨by first | omega | exact Nat.le_refl _⟩, ⟨by (with_reducible repeat (first | apply Kd.R_alloc | apply Kd.R_drewN | apply Kd.R_drew)); exact Kd.R_mono HO509.out (fun _ hk => hk.2)⟩, ⟨by (with_reducible repeat (first | apply Kd.R_alloc | apply Kd.R_drewN | apply Kd.R_drew)); exact Kd.R_mono HO513.out (fun _ hk => hk.2)⟩, ⟨by repeat (first | (with_reducible exact HR505.out) | (with_reducible refine Kd.C_alloc ?_ _) | (with_reducible refine Kd.C_drewN ?_ _) | (with_reducible refine Kd.C_drew ?_) | exact HR505.out)⟩, ⟨by repeat (first | (with_reducible first | exact HB.out | apply below_alloc | apply pw_below_drewN | apply below_drew1) | exact HB.out)⟩⟩
                  · replace c24 := Bool.eq_false_iff.mpr c24
                    subst c24
                    have H1 : (tegulalaw45_HistoryPrefixes.j0 k t506 t510 true) = some r := by rw [if_neg (show ¬ (false = true) by decide)] at H; exact H
                    clear H
                    have H := H1
                    clear H1
                    have H' := Aside0.mk H
                    clear H
                    go_wp2_with (first | (go_at_call 39; (with_reducible refine (history_Valid.calls _ _ y502 false _ ?side1 ?side2 A23.out).mono ?_); (case side1 => repeat (first | exact (by repeat (first | (with_reducible exact HR505.out) | (with_reducible refine Kd.C_alloc ?_ _) | (with_reducible refine Kd.C_drewN ?_ _) | (with_reducible refine Kd.C_drew ?_) | exact HR505.out)) | (with_reducible refine Kd.C_alloc ?_ _) | (with_reducible refine Kd.C_drewN ?_ _) | (with_reducible refine Kd.C_drew ?_))); (case side2 => exact HC505.out); rintro e w28 ⟨rfl, hb⟩; have n0_ := Aside0.mk (Kd.R_below (by (with_reducible repeat (first | apply Kd.R_alloc | apply Kd.R_drewN | apply Kd.R_drew)); exact HO499.out) hb); have n1_ := Aside0.mk (Kd.R_below (by (with_reducible repeat (first | apply Kd.R_alloc | apply Kd.R_drewN | apply Kd.R_drew)); exact HO501.out) hb); have n2_ := Aside0.mk (Kd.R_below (by (with_reducible repeat (first | apply Kd.R_alloc | apply Kd.R_drewN | apply Kd.R_drew)); exact HO509.out) hb); have n3_ := Aside0.mk (Kd.R_below (by (with_reducible repeat (first | apply Kd.R_alloc | apply Kd.R_drewN | apply Kd.R_drew)); exact HO513.out) hb); have n4_ := Aside0.mk (Kd.C_below (by repeat (first | (with_reducible exact HR505.out) | (with_reducible refine Kd.C_alloc ?_ _) | (with_reducible refine Kd.C_drewN ?_ _) | (with_reducible refine Kd.C_drew ?_) | exact HR505.out)) hb); have n5_ := Aside0.mk (below_step (by repeat (first | (with_reducible first | exact HB.out | apply below_alloc | apply pw_below_drewN | apply below_drew1) | exact HB.out)) hb); clear HO499; clear HO501; clear HO509; clear HO513; clear HR505; clear HB; have HO499 := n0_; have HO501 := n1_; have HO509 := n2_; have HO513 := n3_; have HR505 := n4_; have HB := n5_; clear n0_ n1_ n2_ n3_ n4_ n5_; (try clear hb); (try clear hb2); (try clear hk); (try clear hi)))
                    repeat (go_quiet (first | (go_at_call 39; (with_reducible refine (history_Valid.calls _ _ y502 false _ ?side1 ?side2 A23.out).mono ?_); (case side1 => repeat (first | exact (by repeat (first | (with_reducible exact HR505.out) | (with_reducible refine Kd.C_alloc ?_ _) | (with_reducible refine Kd.C_drewN ?_ _) | (with_reducible refine Kd.C_drew ?_) | exact HR505.out)) | (with_reducible refine Kd.C_alloc ?_ _) | (with_reducible refine Kd.C_drewN ?_ _) | (with_reducible refine Kd.C_drew ?_))); (case side2 => exact HC505.out); rintro e w28 ⟨rfl, hb⟩; have n0_ := Aside0.mk (Kd.R_below (by (with_reducible repeat (first | apply Kd.R_alloc | apply Kd.R_drewN | apply Kd.R_drew)); exact HO499.out) hb); have n1_ := Aside0.mk (Kd.R_below (by (with_reducible repeat (first | apply Kd.R_alloc | apply Kd.R_drewN | apply Kd.R_drew)); exact HO501.out) hb); have n2_ := Aside0.mk (Kd.R_below (by (with_reducible repeat (first | apply Kd.R_alloc | apply Kd.R_drewN | apply Kd.R_drew)); exact HO509.out) hb); have n3_ := Aside0.mk (Kd.R_below (by (with_reducible repeat (first | apply Kd.R_alloc | apply Kd.R_drewN | apply Kd.R_drew)); exact HO513.out) hb); have n4_ := Aside0.mk (Kd.C_below (by repeat (first | (with_reducible exact HR505.out) | (with_reducible refine Kd.C_alloc ?_ _) | (with_reducible refine Kd.C_drewN ?_ _) | (with_reducible refine Kd.C_drew ?_) | exact HR505.out)) hb); have n5_ := Aside0.mk (below_step (by repeat (first | (with_reducible first | exact HB.out | apply below_alloc | apply pw_below_drewN | apply below_drew1) | exact HB.out)) hb); clear HO499; clear HO501; clear HO509; clear HO513; clear HR505; clear HB; have HO499 := n0_; have HO501 := n1_; have HO509 := n2_; have HO513 := n3_; have HR505 := n4_; have HB := n5_; clear n0_ n1_ n2_ n3_ n4_ n5_; (try clear hb); (try clear hb2); (try clear hk); (try clear hi))); try go_wp2_with (first | (go_at_call 39; (with_reducible refine (history_Valid.calls _ _ y502 false _ ?side1 ?side2 A23.out).mono ?_); (case side1 => repeat (first | exact (by repeat (first | (with_reducible exact HR505.out) | (with_reducible refine Kd.C_alloc ?_ _) | (with_reducible refine Kd.C_drewN ?_ _) | (with_reducible refine Kd.C_drew ?_) | exact HR505.out)) | (with_reducible refine Kd.C_alloc ?_ _) | (with_reducible refine Kd.C_drewN ?_ _) | (with_reducible refine Kd.C_drew ?_))); (case side2 => exact HC505.out); rintro e w28 ⟨rfl, hb⟩; have n0_ := Aside0.mk (Kd.R_below (by (with_reducible repeat (first | apply Kd.R_alloc | apply Kd.R_drewN | apply Kd.R_drew)); exact HO499.out) hb); have n1_ := Aside0.mk (Kd.R_below (by (with_reducible repeat (first | apply Kd.R_alloc | apply Kd.R_drewN | apply Kd.R_drew)); exact HO501.out) hb); have n2_ := Aside0.mk (Kd.R_below (by (with_reducible repeat (first | apply Kd.R_alloc | apply Kd.R_drewN | apply Kd.R_drew)); exact HO509.out) hb); have n3_ := Aside0.mk (Kd.R_below (by (with_reducible repeat (first | apply Kd.R_alloc | apply Kd.R_drewN | apply Kd.R_drew)); exact HO513.out) hb); have n4_ := Aside0.mk (Kd.C_below (by repeat (first | (with_reducible exact HR505.out) | (with_reducible refine Kd.C_alloc ?_ _) | (with_reducible refine Kd.C_drewN ?_ _) | (with_reducible refine Kd.C_drew ?_) | exact HR505.out)) hb); have n5_ := Aside0.mk (below_step (by repeat (first | (with_reducible first | exact HB.out | apply below_alloc | apply pw_below_drewN | apply below_drew1) | exact HB.out)) hb); clear HO499; clear HO501; clear HO509; clear HO513; clear HR505; clear HB; have HO499 := n0_; have HO501 := n1_; have HO509 := n2_; have HO513 := n3_; have HR505 := n4_; have HB := n5_; clear n0_ n1_ n2_ n3_ n4_ n5_; (try clear hb); (try clear hb2); (try clear hk); (try clear hi))))
                    go_meet
                    case rel => exact ⟨_, (true), (by first | rfl | (simp; done) | (simp [*]; done)), H', ⟨by first | omega | exact Nat.le_refl _⟩, ⟨by (with_reducible repeat (first | apply Kd.R_alloc | apply Kd.R_drewN | apply Kd.R_drew)); exact Kd.R_mono HO509.out (fun _ hk => hk.2)⟩, ⟨by (with_reducible repeat (first | apply Kd.R_alloc | apply Kd.R_drewN | apply Kd.R_drew)); exact Kd.R_mono HO513.out (fun _ hk => hk.2)⟩, ⟨by repeat (first | (with_reducible exact HR505.out) | (with_reducible refine Kd.C_alloc ?_ _) | (with_reducible refine Kd.C_drewN ?_ _) | (with_reducible refine Kd.C_drew ?_) | exact HR505.out)⟩, ⟨by repeat (first | (with_reducible first | exact HB.out | apply below_alloc | apply pw_below_drewN | apply below_drew1) | exact HB.out)⟩⟩
                · rw [if_neg c22] at H
                  have c22b0 : (t511 == 0) = false := beq_eq_false_iff_ne.mpr c22
                  have c22b1 : (t511 != 0) = true := bne_iff_ne.mpr c22
                  have H' := Aside0.mk H
                  clear H
                  go_wp2
                  repeat (go_quiet (fail); try go_wp2)
                  go_meet
                  case rel => exact ⟨_, (true), (by first | rfl | (simp; done) | (simp [*]; done)), H', ⟨by first | omega | exact Nat.le_refl _⟩, ⟨by (with_reducible repeat (first | apply Kd.R_alloc | apply Kd.R_drewN | apply Kd.R_drew)); exact Kd.R_mono HO509.out (fun _ hk => hk.2)⟩, ⟨by (with_reducible repeat (first | apply Kd.R_alloc | apply Kd.R_drewN | apply Kd.R_drew)); exact Kd.R_mono HO513.out (fun _ hk => hk.2)⟩, ⟨by repeat (first | (with_reducible exact HR505.out) | (with_reducible refine Kd.C_alloc ?_ _) | (with_reducible refine Kd.C_drewN ?_ _) | (with_reducible refine Kd.C_drew ?_) | exact HR505.out)⟩, ⟨by repeat (first | (with_reducible first | exact HB.out | apply below_alloc | apply pw_below_drewN | apply below_drew1) | exact HB.out)⟩⟩
              · rw [if_neg c21] at H
                have c21b0 : (t507 == 0) = false := beq_eq_false_iff_ne.mpr c21
                have c21b1 : (t507 != 0) = true := bne_iff_ne.mpr c21
                (first | rw [c21b0] | (simp only [i64_w, i32_w]; rw [c21b0]) | skip)
                have H' := Aside0.mk H
                clear H
                go_wp2
                repeat (go_quiet (fail); try go_wp2)
                go_meet
                case rel => exact ⟨_, (true), (by first | rfl | (simp; done) | (simp [*]; done)), H', ⟨by first | omega | exact Nat.le_refl _⟩, ⟨by (with_reducible repeat (first | apply Kd.R_alloc | apply Kd.R_drewN | apply Kd.R_drew)); exact Kd.R_mono HO509.out (fun _ hk => hk.2)⟩, ⟨by (with_reducible repeat (first | apply Kd.R_alloc | apply Kd.R_drewN | apply Kd.R_drew)); exact Kd.R_mono HO513.out (fun _ hk => hk.2)⟩, ⟨by repeat (first | (with_reducible exact HR505.out) | (with_reducible refine Kd.C_alloc ?_ _) | (with_reducible refine Kd.C_drewN ?_ _) | (with_reducible refine Kd.C_drew ?_) | exact HR505.out)⟩, ⟨by repeat (first | (with_reducible first | exact HB.out | apply below_alloc | apply pw_below_drewN | apply below_drew1) | exact HB.out)⟩⟩
            case rest =>
              clear HC14
              try clear c1
              try clear q1
              try clear c2
              try clear p2
              try clear c4
              try clear c5
              try clear c5b0
              try clear c5b1
              try clear p6
              try clear c8
              try clear c8b0
              try clear c8b1
              try clear c10
              try clear c10b0
              try clear c10b1
              try clear c11
              try clear c11b0
              try clear c11b1
              try clear c12
              try clear q18
              try clear c21
              try clear c21b0
              try clear c21b1
              try clear c22
              try clear c22b0
              try clear c22b1
              try clear c24
              try clear q18
              obtain ⟨kq, x58_13, rfl, HA, HJ13, HO_8, HO_10, HR505, HB⟩ := hcut
              cases kq with
              | zero => exact absurd HA.out (by simp [tegulalaw45_HistoryPrefixes.j0])
              | succ kj13 =>
                have H := HA.out
                clear HA
                simp only [tegulalaw45_HistoryPrefixes.j0] at H
                by_cases c29 : x58_13 = true
                · subst c29
                  have H1 : (some false) = some r := by rw [if_pos rfl] at H; exact H
                  clear H
                  have H := H1
                  clear H1
                  obtain rfl := Option.some.inj H
                  go_wp2
                  repeat (go_quiet (fail); try go_wp2)
                  go_ret
                  exact ⟨by first | rfl | (simp [errW_none, errW_some] <;> rfl) | (simp only [← hji9]; first | rfl | (simp [errW_none, errW_some] <;> rfl)) | (simp [*, errW_none, errW_some] <;> rfl), by repeat (first | (with_reducible first | exact HB.out | apply below_alloc | apply pw_below_drewN | apply below_drew1) | exact HB.out)⟩
                · replace c29 := Bool.eq_false_iff.mpr c29
                  subst c29
                  have H1 : (tegulalaw45_HistoryPrefixes.l0 kj13 t506 t510 0) = some r := by rw [if_neg (show ¬ (false = true) by decide)] at H; exact H
                  clear H
                  have H := H1
                  clear H1
                  have H' := Aside0.mk H
                  clear H
                  go_wp2
                  repeat (go_quiet (fail); try go_wp2)
                  go_loopg [12] kj13 (fun kq v12 w' => ∃ (x12_2 : Int), v12 = .int .i64 x12_2 ∧ Aside0 (tegulalaw45_HistoryPrefixes.l0 kq t506 t510 x12_2 = some r) ∧ Aside0 (kq ≤ kj13) ∧ Aside0 (Kd.R k60 60 w' w.heap.size (fun k_ => some k_ ≠ (v512 : Value).ownBlock) v508 t506) ∧ Aside0 (Kd.R k60 60 w' w.heap.size (fun k_ => some k_ ≠ (v508 : Value).ownBlock) v512 t510) ∧ Aside0 (Kd.C k39 w' Ao17 y502.length y502) ∧ Aside0 (Below w.heap.size w w'))
                  case atStart => exact ⟨(0), (by first | rfl | (simp; done) | (simp [*]; done)), H', ⟨Nat.le_refl _⟩, ⟨by (with_reducible repeat (first | apply Kd.R_alloc | apply Kd.R_drewN | apply Kd.R_drew)); exact HO_8.out⟩, ⟨by (with_reducible repeat (first | apply Kd.R_alloc | apply Kd.R_drewN | apply Kd.R_drew)); exact HO_10.out⟩, ⟨by repeat (first | (with_reducible exact HR505.out) | (with_reducible refine Kd.C_alloc ?_ _) | (with_reducible refine Kd.C_drewN ?_ _) | (with_reducible refine Kd.C_drew ?_) | exact HR505.out)⟩, ⟨by repeat (first | (with_reducible first | exact HB.out | apply below_alloc | apply pw_below_drewN | apply below_drew1) | exact HB.out)⟩⟩
                  case round =>
                    clear H'
                    try clear c1
                    try clear q1
                    try clear c2
                    try clear p2
                    try clear c4
                    try clear c5
                    try clear c5b0
                    try clear c5b1
                    try clear p6
                    try clear c8
                    try clear c8b0
                    try clear c8b1
                    try clear c10
                    try clear c10b0
                    try clear c10b1
                    try clear c11
                    try clear c11b0
                    try clear c11b1
                    try clear c12
                    try clear q18
                    try clear c21
                    try clear c21b0
                    try clear c21b1
                    try clear c22
                    try clear c22b0
                    try clear c22b1
                    try clear c24
                    try clear c29
                    try clear p2
                    try clear p6
                    try clear q1
                    try clear q18
                    obtain ⟨x12_2, rfl, HA, HK2, HO_8, HO_10, HR505, HB⟩ := hrel
                    cases gk with
                    | zero => exact absurd HA.out (by simp [tegulalaw45_HistoryPrefixes.l0])
                    | succ k2 =>
                      have H := HA.out
                      clear HA
                      simp only [tegulalaw45_HistoryPrefixes.l0] at H
                      by_cases c30 : x12_2 < (t510.length : Int)
                      · rw [if_pos c30] at H
                        have c30b0 : decide (x12_2 < (t510.length : Int)) = true := decide_eq_true c30
                        clear c30
                        by_cases c31 : 0 ≤ x12_2
                        · rw [if_pos c31] at H
                          have c31b0 : decide (0 ≤ x12_2) = true := decide_eq_true c31
                          clear c31
                          by_cases c32 : x12_2 < (t506.length : Int)
                          · rw [if_pos c32] at H
                            have c32b0 : decide (x12_2 < (t506.length : Int)) = true := decide_eq_true c32
                            clear c32
                            by_cases c33 : ((rd_T60 t506 x12_2).f0) = ((rd_T60 t510 x12_2).f0)
                            · rw [if_pos c33] at H
                              have c33b0 : (((rd_T60 t506 x12_2).f0) == ((rd_T60 t510 x12_2).f0)) = true := beq_iff_eq.mpr c33
                              have c33b1 : (((rd_T60 t506 x12_2).f0) != ((rd_T60 t510 x12_2).f0)) = false := bne_eq_false_iff_eq.mpr c33
                              clear c33
                              by_cases c34 : ((rd_T60 t506 x12_2).f6) = ((rd_T60 t510 x12_2).f6)
                              · rw [if_pos c34] at H
                                have c34b0 : (((rd_T60 t506 x12_2).f6) == ((rd_T60 t510 x12_2).f6)) = true := beq_iff_eq.mpr c34
                                have c34b1 : (((rd_T60 t506 x12_2).f6) != ((rd_T60 t510 x12_2).f6)) = false := bne_eq_false_iff_eq.mpr c34
                                clear c34
                                by_cases c35 : ((rd_T60 t506 x12_2).f5) = ((rd_T60 t510 x12_2).f5)
                                · rw [if_pos c35] at H
                                  have c35b0 : (((rd_T60 t506 x12_2).f5) == ((rd_T60 t510 x12_2).f5)) = true := beq_iff_eq.mpr c35
                                  have c35b1 : (((rd_T60 t506 x12_2).f5) != ((rd_T60 t510 x12_2).f5)) = false := bne_eq_false_iff_eq.mpr c35
                                  clear c35
                                  by_cases c36 : ((rd_T60 t510 x12_2).f7) ≥ 0
                                  · rw [if_pos c36] at H
                                    have c36b0 : decide (0 ≤ ((rd_T60 t510 x12_2).f7)) = true := decide_eq_true c36
                                    clear c36
                                    by_cases c37 : (!(((rd_T60 t506 x12_2).f0) == ((rd_T60 t510 x12_2).f0)) || (!(((rd_T60 t506 x12_2).f1) == ((rd_T60 t510 x12_2).f1)) || (!(((rd_T60 t506 x12_2).f2) == ((rd_T60 t510 x12_2).f2)) || (!(((rd_T60 t506 x12_2).f3) == ((rd_T60 t510 x12_2).f3)) || (!(((rd_T60 t506 x12_2).f4) == ((rd_T60 t510 x12_2).f4)) || (!(((rd_T60 t506 x12_2).f5) == ((rd_T60 t510 x12_2).f5)) || (!(((rd_T60 t506 x12_2).f6) == ((rd_T60 t510 x12_2).f6)) || (!(((rd_T60 t506 x12_2).f7) == ((rd_T60 t510 x12_2).f7)))))))))) = true
                                    · rw [if_pos c37] at H
                                      have c37b0 : (!(((rd_T60 t506 x12_2).f0) == ((rd_T60 t510 x12_2).f0)) || (!(((rd_T60 t506 x12_2).f1) == ((rd_T60 t510 x12_2).f1)) || (!(((rd_T60 t506 x12_2).f2) == ((rd_T60 t510 x12_2).f2)) || (!(((rd_T60 t506 x12_2).f3) == ((rd_T60 t510 x12_2).f3)) || (!(((rd_T60 t506 x12_2).f4) == ((rd_T60 t510 x12_2).f4)) || (!(((rd_T60 t506 x12_2).f5) == ((rd_T60 t510 x12_2).f5)) || (!(((rd_T60 t506 x12_2).f6) == ((rd_T60 t510 x12_2).f6)) || (!(((rd_T60 t506 x12_2).f7) == ((rd_T60 t510 x12_2).f7)))))))))) = true := c37
                                      have c37b2 : (!(((rd_T60 t506 x12_2).f1) == ((rd_T60 t510 x12_2).f1)) || (!(((rd_T60 t506 x12_2).f2) == ((rd_T60 t510 x12_2).f2)) || (!(((rd_T60 t506 x12_2).f3) == ((rd_T60 t510 x12_2).f3)) || (!(((rd_T60 t506 x12_2).f4) == ((rd_T60 t510 x12_2).f4)) || (!(((rd_T60 t506 x12_2).f7) == ((rd_T60 t510 x12_2).f7))))))) = true := by have q := c37b0; simp only [c33b0, c34b0, c35b0, Bool.not_true, Bool.false_or] at q; exact q
                                      clear c37
                                      obtain rfl := Option.some.inj H
                                      obtain ⟨Ao38, co38, eo38⟩ := Kd.R_slice HO_10.out
                                      subst eo38
                                      obtain ⟨Ao39, co39, eo39⟩ := Kd.R_slice HO_8.out
                                      subst eo39
                                      have p515 : 0 ≤ (x12_2 : Int) := of_decide_eq_true (by first | (with_reducible assumption) | assumption)
                                      have q515 : x12_2 < (t506.length : Int) := of_decide_eq_true (by first | (with_reducible assumption) | assumption)
                                      obtain ⟨ad515, e515, hx515_0, hx515_1, hx515_2, hx515_3, hx515_4, hx515_5, hx515_6, hx515_7⟩ := at_T60 (Kd.R_reads' HO_8.out).2.2 x12_2 p515 q515
                                      cases e515
                                      replace p515 := eq_true p515
                                      replace q515 := eq_true q515
                                      have p516 : 0 ≤ (x12_2 : Int) := of_decide_eq_true (by first | (with_reducible assumption) | assumption)
                                      have q516 : x12_2 < (t510.length : Int) := of_decide_eq_true (by first | (with_reducible assumption) | assumption)
                                      obtain ⟨ad516, e516, hx516_0, hx516_1, hx516_2, hx516_3, hx516_4, hx516_5, hx516_6, hx516_7⟩ := at_T60 (Kd.R_reads' HO_10.out).2.2 x12_2 p516 q516
                                      cases e516
                                      replace p516 := eq_true p516
                                      replace q516 := eq_true q516
                                      have p517 : 0 ≤ (x12_2 : Int) := of_decide_eq_true (by first | (with_reducible assumption) | assumption)
                                      have q517 : x12_2 < (t506.length : Int) := of_decide_eq_true (by first | (with_reducible assumption) | assumption)
                                      obtain ⟨ad517, e517, hx517_0, hx517_1, hx517_2, hx517_3, hx517_4, hx517_5, hx517_6, hx517_7⟩ := at_T60 (Kd.R_reads' HO_8.out).2.2 x12_2 p517 q517
                                      obtain rfl : ad515 = ad517 := (by injection e517)
                                      replace p517 := eq_true p517
                                      replace q517 := eq_true q517
                                      have p518 : 0 ≤ (x12_2 : Int) := of_decide_eq_true (by first | (with_reducible assumption) | assumption)
                                      have q518 : x12_2 < (t510.length : Int) := of_decide_eq_true (by first | (with_reducible assumption) | assumption)
                                      obtain ⟨ad518, e518, hx518_0, hx518_1, hx518_2, hx518_3, hx518_4, hx518_5, hx518_6, hx518_7⟩ := at_T60 (Kd.R_reads' HO_10.out).2.2 x12_2 p518 q518
                                      obtain rfl : ad516 = ad518 := (by injection e518)
                                      replace p518 := eq_true p518
                                      replace q518 := eq_true q518
                                      have p519 : 0 ≤ (x12_2 : Int) := of_decide_eq_true (by first | (with_reducible assumption) | assumption)
                                      have q519 : x12_2 < (t506.length : Int) := of_decide_eq_true (by first | (with_reducible assumption) | assumption)
                                      obtain ⟨ad519, e519, hx519_0, hx519_1, hx519_2, hx519_3, hx519_4, hx519_5, hx519_6, hx519_7⟩ := at_T60 (Kd.R_reads' HO_8.out).2.2 x12_2 p519 q519
                                      obtain rfl : ad515 = ad519 := (by injection e519)
                                      replace p519 := eq_true p519
                                      replace q519 := eq_true q519
                                      have p520 : 0 ≤ (x12_2 : Int) := of_decide_eq_true (by first | (with_reducible assumption) | assumption)
                                      have q520 : x12_2 < (t510.length : Int) := of_decide_eq_true (by first | (with_reducible assumption) | assumption)
                                      obtain ⟨ad520, e520, hx520_0, hx520_1, hx520_2, hx520_3, hx520_4, hx520_5, hx520_6, hx520_7⟩ := at_T60 (Kd.R_reads' HO_10.out).2.2 x12_2 p520 q520
                                      obtain rfl : ad516 = ad520 := (by injection e520)
                                      replace p520 := eq_true p520
                                      replace q520 := eq_true q520
                                      have p521 : 0 ≤ (x12_2 : Int) := of_decide_eq_true (by first | (with_reducible assumption) | assumption)
                                      have q521 : x12_2 < (t510.length : Int) := of_decide_eq_true (by first | (with_reducible assumption) | assumption)
                                      obtain ⟨ad521, e521, hx521_0, hx521_1, hx521_2, hx521_3, hx521_4, hx521_5, hx521_6, hx521_7⟩ := at_T60 (Kd.R_reads' HO_10.out).2.2 x12_2 p521 q521
                                      obtain rfl : ad516 = ad521 := (by injection e521)
                                      replace p521 := eq_true p521
                                      replace q521 := eq_true q521
                                      have p522 : 0 ≤ (x12_2 : Int) := of_decide_eq_true (by first | (with_reducible assumption) | assumption)
                                      have q522 : x12_2 < (t506.length : Int) := of_decide_eq_true (by first | (with_reducible assumption) | assumption)
                                      obtain ⟨ad522, e522, hx522_0, hx522_1, hx522_2, hx522_3, hx522_4, hx522_5, hx522_6, hx522_7⟩ := at_T60 (Kd.R_reads' HO_8.out).2.2 x12_2 p522 q522
                                      obtain rfl : ad515 = ad522 := (by injection e522)
                                      replace p522 := eq_true p522
                                      replace q522 := eq_true q522
                                      have p523 : 0 ≤ (x12_2 : Int) := of_decide_eq_true (by first | (with_reducible assumption) | assumption)
                                      have q523 : x12_2 < (t510.length : Int) := of_decide_eq_true (by first | (with_reducible assumption) | assumption)
                                      obtain ⟨ad523, e523, hx523_0, hx523_1, hx523_2, hx523_3, hx523_4, hx523_5, hx523_6, hx523_7⟩ := at_T60 (Kd.R_reads' HO_10.out).2.2 x12_2 p523 q523
                                      obtain rfl : ad516 = ad523 := (by injection e523)
                                      replace p523 := eq_true p523
                                      replace q523 := eq_true q523
                                      go_wp2
                                      repeat (go_quiet (fail); try go_wp2)
                                      go_ret
                                      exact ⟨by first | rfl | (simp [errW_none, errW_some] <;> rfl) | (simp only [← hji9]; first | rfl | (simp [errW_none, errW_some] <;> rfl)) | (simp [*, errW_none, errW_some] <;> rfl), by repeat (first | (with_reducible first | exact HB.out | apply below_alloc | apply pw_below_drewN | apply below_drew1) | exact HB.out)⟩
                                    · rw [if_neg c37] at H
                                      have c37b0 : (!(((rd_T60 t506 x12_2).f0) == ((rd_T60 t510 x12_2).f0)) || (!(((rd_T60 t506 x12_2).f1) == ((rd_T60 t510 x12_2).f1)) || (!(((rd_T60 t506 x12_2).f2) == ((rd_T60 t510 x12_2).f2)) || (!(((rd_T60 t506 x12_2).f3) == ((rd_T60 t510 x12_2).f3)) || (!(((rd_T60 t506 x12_2).f4) == ((rd_T60 t510 x12_2).f4)) || (!(((rd_T60 t506 x12_2).f5) == ((rd_T60 t510 x12_2).f5)) || (!(((rd_T60 t506 x12_2).f6) == ((rd_T60 t510 x12_2).f6)) || (!(((rd_T60 t506 x12_2).f7) == ((rd_T60 t510 x12_2).f7)))))))))) = false := by simpa using c37
                                      have c37b2 : (!(((rd_T60 t506 x12_2).f1) == ((rd_T60 t510 x12_2).f1)) || (!(((rd_T60 t506 x12_2).f2) == ((rd_T60 t510 x12_2).f2)) || (!(((rd_T60 t506 x12_2).f3) == ((rd_T60 t510 x12_2).f3)) || (!(((rd_T60 t506 x12_2).f4) == ((rd_T60 t510 x12_2).f4)) || (!(((rd_T60 t506 x12_2).f7) == ((rd_T60 t510 x12_2).f7))))))) = false := by have q := c37b0; simp only [c33b0, c34b0, c35b0, Bool.not_true, Bool.false_or] at q; exact q
                                      clear c37
                                      have H' := Aside0.mk H
                                      clear H
                                      obtain ⟨Ao40, co40, eo40⟩ := Kd.R_slice HO_10.out
                                      subst eo40
                                      obtain ⟨Ao41, co41, eo41⟩ := Kd.R_slice HO_8.out
                                      subst eo41
                                      have p515 : 0 ≤ (x12_2 : Int) := of_decide_eq_true (by first | (with_reducible assumption) | assumption)
                                      have q515 : x12_2 < (t506.length : Int) := of_decide_eq_true (by first | (with_reducible assumption) | assumption)
                                      obtain ⟨ad515, e515, hx515_0, hx515_1, hx515_2, hx515_3, hx515_4, hx515_5, hx515_6, hx515_7⟩ := at_T60 (Kd.R_reads' HO_8.out).2.2 x12_2 p515 q515
                                      cases e515
                                      replace p515 := eq_true p515
                                      replace q515 := eq_true q515
                                      have p516 : 0 ≤ (x12_2 : Int) := of_decide_eq_true (by first | (with_reducible assumption) | assumption)
                                      have q516 : x12_2 < (t510.length : Int) := of_decide_eq_true (by first | (with_reducible assumption) | assumption)
                                      obtain ⟨ad516, e516, hx516_0, hx516_1, hx516_2, hx516_3, hx516_4, hx516_5, hx516_6, hx516_7⟩ := at_T60 (Kd.R_reads' HO_10.out).2.2 x12_2 p516 q516
                                      cases e516
                                      replace p516 := eq_true p516
                                      replace q516 := eq_true q516
                                      have p517 : 0 ≤ (x12_2 : Int) := of_decide_eq_true (by first | (with_reducible assumption) | assumption)
                                      have q517 : x12_2 < (t506.length : Int) := of_decide_eq_true (by first | (with_reducible assumption) | assumption)
                                      obtain ⟨ad517, e517, hx517_0, hx517_1, hx517_2, hx517_3, hx517_4, hx517_5, hx517_6, hx517_7⟩ := at_T60 (Kd.R_reads' HO_8.out).2.2 x12_2 p517 q517
                                      obtain rfl : ad515 = ad517 := (by injection e517)
                                      replace p517 := eq_true p517
                                      replace q517 := eq_true q517
                                      have p518 : 0 ≤ (x12_2 : Int) := of_decide_eq_true (by first | (with_reducible assumption) | assumption)
                                      have q518 : x12_2 < (t510.length : Int) := of_decide_eq_true (by first | (with_reducible assumption) | assumption)
                                      obtain ⟨ad518, e518, hx518_0, hx518_1, hx518_2, hx518_3, hx518_4, hx518_5, hx518_6, hx518_7⟩ := at_T60 (Kd.R_reads' HO_10.out).2.2 x12_2 p518 q518
                                      obtain rfl : ad516 = ad518 := (by injection e518)
                                      replace p518 := eq_true p518
                                      replace q518 := eq_true q518
                                      have p519 : 0 ≤ (x12_2 : Int) := of_decide_eq_true (by first | (with_reducible assumption) | assumption)
                                      have q519 : x12_2 < (t506.length : Int) := of_decide_eq_true (by first | (with_reducible assumption) | assumption)
                                      obtain ⟨ad519, e519, hx519_0, hx519_1, hx519_2, hx519_3, hx519_4, hx519_5, hx519_6, hx519_7⟩ := at_T60 (Kd.R_reads' HO_8.out).2.2 x12_2 p519 q519
                                      obtain rfl : ad515 = ad519 := (by injection e519)
                                      replace p519 := eq_true p519
                                      replace q519 := eq_true q519
                                      have p520 : 0 ≤ (x12_2 : Int) := of_decide_eq_true (by first | (with_reducible assumption) | assumption)
                                      have q520 : x12_2 < (t510.length : Int) := of_decide_eq_true (by first | (with_reducible assumption) | assumption)
                                      obtain ⟨ad520, e520, hx520_0, hx520_1, hx520_2, hx520_3, hx520_4, hx520_5, hx520_6, hx520_7⟩ := at_T60 (Kd.R_reads' HO_10.out).2.2 x12_2 p520 q520
                                      obtain rfl : ad516 = ad520 := (by injection e520)
                                      replace p520 := eq_true p520
                                      replace q520 := eq_true q520
                                      have p521 : 0 ≤ (x12_2 : Int) := of_decide_eq_true (by first | (with_reducible assumption) | assumption)
                                      have q521 : x12_2 < (t510.length : Int) := of_decide_eq_true (by first | (with_reducible assumption) | assumption)
                                      obtain ⟨ad521, e521, hx521_0, hx521_1, hx521_2, hx521_3, hx521_4, hx521_5, hx521_6, hx521_7⟩ := at_T60 (Kd.R_reads' HO_10.out).2.2 x12_2 p521 q521
                                      obtain rfl : ad516 = ad521 := (by injection e521)
                                      replace p521 := eq_true p521
                                      replace q521 := eq_true q521
                                      have p522 : 0 ≤ (x12_2 : Int) := of_decide_eq_true (by first | (with_reducible assumption) | assumption)
                                      have q522 : x12_2 < (t506.length : Int) := of_decide_eq_true (by first | (with_reducible assumption) | assumption)
                                      obtain ⟨ad522, e522, hx522_0, hx522_1, hx522_2, hx522_3, hx522_4, hx522_5, hx522_6, hx522_7⟩ := at_T60 (Kd.R_reads' HO_8.out).2.2 x12_2 p522 q522
                                      obtain rfl : ad515 = ad522 := (by injection e522)
                                      replace p522 := eq_true p522
                                      replace q522 := eq_true q522
                                      have p523 : 0 ≤ (x12_2 : Int) := of_decide_eq_true (by first | (with_reducible assumption) | assumption)
                                      have q523 : x12_2 < (t510.length : Int) := of_decide_eq_true (by first | (with_reducible assumption) | assumption)
                                      obtain ⟨ad523, e523, hx523_0, hx523_1, hx523_2, hx523_3, hx523_4, hx523_5, hx523_6, hx523_7⟩ := at_T60 (Kd.R_reads' HO_10.out).2.2 x12_2 p523 q523
                                      obtain rfl : ad516 = ad523 := (by injection e523)
                                      replace p523 := eq_true p523
                                      replace q523 := eq_true q523
                                      go_wp2
                                      repeat (go_quiet (fail); try go_wp2)
                                      go_roundg k2
                                      case measure => have := HJ13.out; have := HK2.out; omega
                                      case rel => exact ⟨(wrap64 (x12_2 + 1)), (by first | rfl | (simp; done) | (simp [*]; done)), H', ⟨by have := HJ13.out; have := HK2.out; omega⟩, ⟨by (with_reducible repeat (first | apply Kd.R_alloc | apply Kd.R_drewN | apply Kd.R_drew)); exact HO_8.out⟩, ⟨by (with_reducible repeat (first | apply Kd.R_alloc | apply Kd.R_drewN | apply Kd.R_drew)); exact HO_10.out⟩, ⟨by repeat (first | (with_reducible exact HR505.out) | (with_reducible refine Kd.C_alloc ?_ _) | (with_reducible refine Kd.C_drewN ?_ _) | (with_reducible refine Kd.C_drew ?_) | exact HR505.out)⟩, ⟨by repeat (first | (with_reducible first | exact HB.out | apply below_alloc | apply pw_below_drewN | apply below_drew1) | exact HB.out)⟩⟩
                                  · rw [if_neg c36] at H
                                    have c36b0 : decide (0 ≤ ((rd_T60 t510 x12_2).f7)) = false := decide_eq_false c36
                                    clear c36
                                    have H' := Aside0.mk H
                                    clear H
                                    obtain ⟨Ao42, co42, eo42⟩ := Kd.R_slice HO_10.out
                                    subst eo42
                                    obtain ⟨Ao43, co43, eo43⟩ := Kd.R_slice HO_8.out
                                    subst eo43
                                    have p515 : 0 ≤ (x12_2 : Int) := of_decide_eq_true (by first | (with_reducible assumption) | assumption)
                                    have q515 : x12_2 < (t506.length : Int) := of_decide_eq_true (by first | (with_reducible assumption) | assumption)
                                    obtain ⟨ad515, e515, hx515_0, hx515_1, hx515_2, hx515_3, hx515_4, hx515_5, hx515_6, hx515_7⟩ := at_T60 (Kd.R_reads' HO_8.out).2.2 x12_2 p515 q515
                                    cases e515
                                    replace p515 := eq_true p515
                                    replace q515 := eq_true q515
                                    have p516 : 0 ≤ (x12_2 : Int) := of_decide_eq_true (by first | (with_reducible assumption) | assumption)
                                    have q516 : x12_2 < (t510.length : Int) := of_decide_eq_true (by first | (with_reducible assumption) | assumption)
                                    obtain ⟨ad516, e516, hx516_0, hx516_1, hx516_2, hx516_3, hx516_4, hx516_5, hx516_6, hx516_7⟩ := at_T60 (Kd.R_reads' HO_10.out).2.2 x12_2 p516 q516
                                    cases e516
                                    replace p516 := eq_true p516
                                    replace q516 := eq_true q516
                                    have p517 : 0 ≤ (x12_2 : Int) := of_decide_eq_true (by first | (with_reducible assumption) | assumption)
                                    have q517 : x12_2 < (t506.length : Int) := of_decide_eq_true (by first | (with_reducible assumption) | assumption)
                                    obtain ⟨ad517, e517, hx517_0, hx517_1, hx517_2, hx517_3, hx517_4, hx517_5, hx517_6, hx517_7⟩ := at_T60 (Kd.R_reads' HO_8.out).2.2 x12_2 p517 q517
                                    obtain rfl : ad515 = ad517 := (by injection e517)
                                    replace p517 := eq_true p517
                                    replace q517 := eq_true q517
                                    have p518 : 0 ≤ (x12_2 : Int) := of_decide_eq_true (by first | (with_reducible assumption) | assumption)
                                    have q518 : x12_2 < (t510.length : Int) := of_decide_eq_true (by first | (with_reducible assumption) | assumption)
                                    obtain ⟨ad518, e518, hx518_0, hx518_1, hx518_2, hx518_3, hx518_4, hx518_5, hx518_6, hx518_7⟩ := at_T60 (Kd.R_reads' HO_10.out).2.2 x12_2 p518 q518
                                    obtain rfl : ad516 = ad518 := (by injection e518)
                                    replace p518 := eq_true p518
                                    replace q518 := eq_true q518
                                    have p519 : 0 ≤ (x12_2 : Int) := of_decide_eq_true (by first | (with_reducible assumption) | assumption)
                                    have q519 : x12_2 < (t506.length : Int) := of_decide_eq_true (by first | (with_reducible assumption) | assumption)
                                    obtain ⟨ad519, e519, hx519_0, hx519_1, hx519_2, hx519_3, hx519_4, hx519_5, hx519_6, hx519_7⟩ := at_T60 (Kd.R_reads' HO_8.out).2.2 x12_2 p519 q519
                                    obtain rfl : ad515 = ad519 := (by injection e519)
                                    replace p519 := eq_true p519
                                    replace q519 := eq_true q519
                                    have p520 : 0 ≤ (x12_2 : Int) := of_decide_eq_true (by first | (with_reducible assumption) | assumption)
                                    have q520 : x12_2 < (t510.length : Int) := of_decide_eq_true (by first | (with_reducible assumption) | assumption)
                                    obtain ⟨ad520, e520, hx520_0, hx520_1, hx520_2, hx520_3, hx520_4, hx520_5, hx520_6, hx520_7⟩ := at_T60 (Kd.R_reads' HO_10.out).2.2 x12_2 p520 q520
                                    obtain rfl : ad516 = ad520 := (by injection e520)
                                    replace p520 := eq_true p520
                                    replace q520 := eq_true q520
                                    have p521 : 0 ≤ (x12_2 : Int) := of_decide_eq_true (by first | (with_reducible assumption) | assumption)
                                    have q521 : x12_2 < (t510.length : Int) := of_decide_eq_true (by first | (with_reducible assumption) | assumption)
                                    obtain ⟨ad521, e521, hx521_0, hx521_1, hx521_2, hx521_3, hx521_4, hx521_5, hx521_6, hx521_7⟩ := at_T60 (Kd.R_reads' HO_10.out).2.2 x12_2 p521 q521
                                    obtain rfl : ad516 = ad521 := (by injection e521)
                                    replace p521 := eq_true p521
                                    replace q521 := eq_true q521
                                    go_wp2
                                    repeat (go_quiet (fail); try go_wp2)
                                    go_roundg k2
                                    case measure => have := HJ13.out; have := HK2.out; omega
                                    case rel => exact ⟨(wrap64 (x12_2 + 1)), (by first | rfl | (simp; done) | (simp [*]; done)), H', ⟨by have := HJ13.out; have := HK2.out; omega⟩, ⟨by (with_reducible repeat (first | apply Kd.R_alloc | apply Kd.R_drewN | apply Kd.R_drew)); exact HO_8.out⟩, ⟨by (with_reducible repeat (first | apply Kd.R_alloc | apply Kd.R_drewN | apply Kd.R_drew)); exact HO_10.out⟩, ⟨by repeat (first | (with_reducible exact HR505.out) | (with_reducible refine Kd.C_alloc ?_ _) | (with_reducible refine Kd.C_drewN ?_ _) | (with_reducible refine Kd.C_drew ?_) | exact HR505.out)⟩, ⟨by repeat (first | (with_reducible first | exact HB.out | apply below_alloc | apply pw_below_drewN | apply below_drew1) | exact HB.out)⟩⟩
                                · rw [if_neg c35] at H
                                  have c35b0 : (((rd_T60 t506 x12_2).f5) == ((rd_T60 t510 x12_2).f5)) = false := beq_eq_false_iff_ne.mpr c35
                                  have c35b1 : (((rd_T60 t506 x12_2).f5) != ((rd_T60 t510 x12_2).f5)) = true := bne_iff_ne.mpr c35
                                  obtain rfl := Option.some.inj H
                                  obtain ⟨Ao44, co44, eo44⟩ := Kd.R_slice HO_10.out
                                  subst eo44
                                  obtain ⟨Ao45, co45, eo45⟩ := Kd.R_slice HO_8.out
                                  subst eo45
                                  have p515 : 0 ≤ (x12_2 : Int) := of_decide_eq_true (by first | (with_reducible assumption) | assumption)
                                  have q515 : x12_2 < (t506.length : Int) := of_decide_eq_true (by first | (with_reducible assumption) | assumption)
                                  obtain ⟨ad515, e515, hx515_0, hx515_1, hx515_2, hx515_3, hx515_4, hx515_5, hx515_6, hx515_7⟩ := at_T60 (Kd.R_reads' HO_8.out).2.2 x12_2 p515 q515
                                  cases e515
                                  replace p515 := eq_true p515
                                  replace q515 := eq_true q515
                                  have p516 : 0 ≤ (x12_2 : Int) := of_decide_eq_true (by first | (with_reducible assumption) | assumption)
                                  have q516 : x12_2 < (t510.length : Int) := of_decide_eq_true (by first | (with_reducible assumption) | assumption)
                                  obtain ⟨ad516, e516, hx516_0, hx516_1, hx516_2, hx516_3, hx516_4, hx516_5, hx516_6, hx516_7⟩ := at_T60 (Kd.R_reads' HO_10.out).2.2 x12_2 p516 q516
                                  cases e516
                                  replace p516 := eq_true p516
                                  replace q516 := eq_true q516
                                  have p517 : 0 ≤ (x12_2 : Int) := of_decide_eq_true (by first | (with_reducible assumption) | assumption)
                                  have q517 : x12_2 < (t506.length : Int) := of_decide_eq_true (by first | (with_reducible assumption) | assumption)
                                  obtain ⟨ad517, e517, hx517_0, hx517_1, hx517_2, hx517_3, hx517_4, hx517_5, hx517_6, hx517_7⟩ := at_T60 (Kd.R_reads' HO_8.out).2.2 x12_2 p517 q517
                                  obtain rfl : ad515 = ad517 := (by injection e517)
                                  replace p517 := eq_true p517
                                  replace q517 := eq_true q517
                                  have p518 : 0 ≤ (x12_2 : Int) := of_decide_eq_true (by first | (with_reducible assumption) | assumption)
                                  have q518 : x12_2 < (t510.length : Int) := of_decide_eq_true (by first | (with_reducible assumption) | assumption)
                                  obtain ⟨ad518, e518, hx518_0, hx518_1, hx518_2, hx518_3, hx518_4, hx518_5, hx518_6, hx518_7⟩ := at_T60 (Kd.R_reads' HO_10.out).2.2 x12_2 p518 q518
                                  obtain rfl : ad516 = ad518 := (by injection e518)
                                  replace p518 := eq_true p518
                                  replace q518 := eq_true q518
                                  have p519 : 0 ≤ (x12_2 : Int) := of_decide_eq_true (by first | (with_reducible assumption) | assumption)
                                  have q519 : x12_2 < (t506.length : Int) := of_decide_eq_true (by first | (with_reducible assumption) | assumption)
                                  obtain ⟨ad519, e519, hx519_0, hx519_1, hx519_2, hx519_3, hx519_4, hx519_5, hx519_6, hx519_7⟩ := at_T60 (Kd.R_reads' HO_8.out).2.2 x12_2 p519 q519
                                  obtain rfl : ad515 = ad519 := (by injection e519)
                                  replace p519 := eq_true p519
                                  replace q519 := eq_true q519
                                  have p520 : 0 ≤ (x12_2 : Int) := of_decide_eq_true (by first | (with_reducible assumption) | assumption)
                                  have q520 : x12_2 < (t510.length : Int) := of_decide_eq_true (by first | (with_reducible assumption) | assumption)
                                  obtain ⟨ad520, e520, hx520_0, hx520_1, hx520_2, hx520_3, hx520_4, hx520_5, hx520_6, hx520_7⟩ := at_T60 (Kd.R_reads' HO_10.out).2.2 x12_2 p520 q520
                                  obtain rfl : ad516 = ad520 := (by injection e520)
                                  replace p520 := eq_true p520
                                  replace q520 := eq_true q520
                                  go_wp2
                                  repeat (go_quiet (fail); try go_wp2)
                                  go_ret
                                  exact ⟨by first | rfl | (simp [errW_none, errW_some] <;> rfl) | (simp only [← hji9]; first | rfl | (simp [errW_none, errW_some] <;> rfl)) | (simp [*, errW_none, errW_some] <;> rfl), by repeat (first | (with_reducible first | exact HB.out | apply below_alloc | apply pw_below_drewN | apply below_drew1) | exact HB.out)⟩
                              · rw [if_neg c34] at H
                                have c34b0 : (((rd_T60 t506 x12_2).f6) == ((rd_T60 t510 x12_2).f6)) = false := beq_eq_false_iff_ne.mpr c34
                                have c34b1 : (((rd_T60 t506 x12_2).f6) != ((rd_T60 t510 x12_2).f6)) = true := bne_iff_ne.mpr c34
                                obtain rfl := Option.some.inj H
                                obtain ⟨Ao46, co46, eo46⟩ := Kd.R_slice HO_10.out
                                subst eo46
                                obtain ⟨Ao47, co47, eo47⟩ := Kd.R_slice HO_8.out
                                subst eo47
                                have p515 : 0 ≤ (x12_2 : Int) := of_decide_eq_true (by first | (with_reducible assumption) | assumption)
                                have q515 : x12_2 < (t506.length : Int) := of_decide_eq_true (by first | (with_reducible assumption) | assumption)
                                obtain ⟨ad515, e515, hx515_0, hx515_1, hx515_2, hx515_3, hx515_4, hx515_5, hx515_6, hx515_7⟩ := at_T60 (Kd.R_reads' HO_8.out).2.2 x12_2 p515 q515
                                cases e515
                                replace p515 := eq_true p515
                                replace q515 := eq_true q515
                                have p516 : 0 ≤ (x12_2 : Int) := of_decide_eq_true (by first | (with_reducible assumption) | assumption)
                                have q516 : x12_2 < (t510.length : Int) := of_decide_eq_true (by first | (with_reducible assumption) | assumption)
                                obtain ⟨ad516, e516, hx516_0, hx516_1, hx516_2, hx516_3, hx516_4, hx516_5, hx516_6, hx516_7⟩ := at_T60 (Kd.R_reads' HO_10.out).2.2 x12_2 p516 q516
                                cases e516
                                replace p516 := eq_true p516
                                replace q516 := eq_true q516
                                have p517 : 0 ≤ (x12_2 : Int) := of_decide_eq_true (by first | (with_reducible assumption) | assumption)
                                have q517 : x12_2 < (t506.length : Int) := of_decide_eq_true (by first | (with_reducible assumption) | assumption)
                                obtain ⟨ad517, e517, hx517_0, hx517_1, hx517_2, hx517_3, hx517_4, hx517_5, hx517_6, hx517_7⟩ := at_T60 (Kd.R_reads' HO_8.out).2.2 x12_2 p517 q517
                                obtain rfl : ad515 = ad517 := (by injection e517)
                                replace p517 := eq_true p517
                                replace q517 := eq_true q517
                                have p518 : 0 ≤ (x12_2 : Int) := of_decide_eq_true (by first | (with_reducible assumption) | assumption)
                                have q518 : x12_2 < (t510.length : Int) := of_decide_eq_true (by first | (with_reducible assumption) | assumption)
                                obtain ⟨ad518, e518, hx518_0, hx518_1, hx518_2, hx518_3, hx518_4, hx518_5, hx518_6, hx518_7⟩ := at_T60 (Kd.R_reads' HO_10.out).2.2 x12_2 p518 q518
                                obtain rfl : ad516 = ad518 := (by injection e518)
                                replace p518 := eq_true p518
                                replace q518 := eq_true q518
                                go_wp2
                                repeat (go_quiet (fail); try go_wp2)
                                go_ret
                                exact ⟨by first | rfl | (simp [errW_none, errW_some] <;> rfl) | (simp only [← hji9]; first | rfl | (simp [errW_none, errW_some] <;> rfl)) | (simp [*, errW_none, errW_some] <;> rfl), by repeat (first | (with_reducible first | exact HB.out | apply below_alloc | apply pw_below_drewN | apply below_drew1) | exact HB.out)⟩
                            · rw [if_neg c33] at H
                              have c33b0 : (((rd_T60 t506 x12_2).f0) == ((rd_T60 t510 x12_2).f0)) = false := beq_eq_false_iff_ne.mpr c33
                              have c33b1 : (((rd_T60 t506 x12_2).f0) != ((rd_T60 t510 x12_2).f0)) = true := bne_iff_ne.mpr c33
                              obtain rfl := Option.some.inj H
                              obtain ⟨Ao48, co48, eo48⟩ := Kd.R_slice HO_10.out
                              subst eo48
                              obtain ⟨Ao49, co49, eo49⟩ := Kd.R_slice HO_8.out
                              subst eo49
                              have p515 : 0 ≤ (x12_2 : Int) := of_decide_eq_true (by first | (with_reducible assumption) | assumption)
                              have q515 : x12_2 < (t506.length : Int) := of_decide_eq_true (by first | (with_reducible assumption) | assumption)
                              obtain ⟨ad515, e515, hx515_0, hx515_1, hx515_2, hx515_3, hx515_4, hx515_5, hx515_6, hx515_7⟩ := at_T60 (Kd.R_reads' HO_8.out).2.2 x12_2 p515 q515
                              cases e515
                              replace p515 := eq_true p515
                              replace q515 := eq_true q515
                              have p516 : 0 ≤ (x12_2 : Int) := of_decide_eq_true (by first | (with_reducible assumption) | assumption)
                              have q516 : x12_2 < (t510.length : Int) := of_decide_eq_true (by first | (with_reducible assumption) | assumption)
                              obtain ⟨ad516, e516, hx516_0, hx516_1, hx516_2, hx516_3, hx516_4, hx516_5, hx516_6, hx516_7⟩ := at_T60 (Kd.R_reads' HO_10.out).2.2 x12_2 p516 q516
                              cases e516
                              replace p516 := eq_true p516
                              replace q516 := eq_true q516
                              go_wp2
                              repeat (go_quiet (fail); try go_wp2)
                              go_ret
                              exact ⟨by first | rfl | (simp [errW_none, errW_some] <;> rfl) | (simp only [← hji9]; first | rfl | (simp [errW_none, errW_some] <;> rfl)) | (simp [*, errW_none, errW_some] <;> rfl), by repeat (first | (with_reducible first | exact HB.out | apply below_alloc | apply pw_below_drewN | apply below_drew1) | exact HB.out)⟩
                          · rw [if_neg c32] at H
                            exact absurd H (by simp)
                        · rw [if_neg c31] at H
                          exact absurd H (by simp)
                      · rw [if_neg c30] at H
                        have c30b0 : decide (x12_2 < (t510.length : Int)) = false := decide_eq_false c30
                        clear c30
                        obtain rfl := Option.some.inj H
                        obtain ⟨Ao50, co50, eo50⟩ := Kd.R_slice HO_10.out
                        subst eo50
                        go_wp2
                        repeat (go_quiet (fail); try go_wp2)
                        go_ret
                        exact ⟨by first | rfl | (simp [errW_none, errW_some] <;> rfl) | (simp only [← hji9]; first | rfl | (simp [errW_none, errW_some] <;> rfl)) | (simp [*, errW_none, errW_some] <;> rfl), by repeat (first | (with_reducible first | exact HB.out | apply below_alloc | apply pw_below_drewN | apply below_drew1) | exact HB.out)⟩
          · rw [if_neg c11] at H
            exact absurd H (by simp)
        · rw [if_neg c10] at H
          exact absurd H (by simp)
  · replace c4 := Bool.eq_false_iff.mpr c4
    subst c4
    have H1 : (some false) = some r := by rw [if_neg (show ¬ (false = true) by decide)] at H; exact H
    clear H
    have H := H1
    clear H1
    obtain rfl := Option.some.inj H
    go_enter Try.func12, Try.ntmps12
    go_wp2_with (first | (go_at_call 31; (with_reducible refine (tegulalaw45_awake.calls  false _ A3.out).mono ?_); rintro e w51 ⟨rfl, hb⟩; have n0_ := Aside0.mk (below_step (by repeat (first | (with_reducible first | exact HB.out | apply below_alloc | apply pw_below_drewN | apply below_drew1) | exact HB.out)) hb); clear HB; have HB := n0_; clear n0_; (try clear hb); (try clear hb2); (try clear hk); (try clear hi)))
    repeat (go_quiet (first | (go_at_call 31; (with_reducible refine (tegulalaw45_awake.calls  false _ A3.out).mono ?_); rintro e w51 ⟨rfl, hb⟩; have n0_ := Aside0.mk (below_step (by repeat (first | (with_reducible first | exact HB.out | apply below_alloc | apply pw_below_drewN | apply below_drew1) | exact HB.out)) hb); clear HB; have HB := n0_; clear n0_; (try clear hb); (try clear hb2); (try clear hk); (try clear hi))); try go_wp2_with (first | (go_at_call 31; (with_reducible refine (tegulalaw45_awake.calls  false _ A3.out).mono ?_); rintro e w51 ⟨rfl, hb⟩; have n0_ := Aside0.mk (below_step (by repeat (first | (with_reducible first | exact HB.out | apply below_alloc | apply pw_below_drewN | apply below_drew1) | exact HB.out)) hb); clear HB; have HB := n0_; clear n0_; (try clear hb); (try clear hb2); (try clear hk); (try clear hi))))
    go_ret
    exact ⟨by first | rfl | (simp [errW_none, errW_some] <;> rfl) | (simp [*, errW_none, errW_some] <;> rfl), by repeat (first | (with_reducible first | exact HB.out | apply below_alloc | apply pw_below_drewN | apply below_drew1) | exact HB.out)⟩

end Go.Proofs.Ytidghmgaaenihaa.Q

/-! part Q33 -/
namespace Go.Proofs.Ytidghmgaaenihaa.Q
open Go.RowKit Go.Proofs.YtidghmgaaenihaaW.PrintWords Go.Proofs.YtidghmgaaenihaaW.PrintLast Go.Proofs.YtidghmgaaenihaaW.PrintMore
attribute [local go_sem] max2_int min2_int max_two min_two max_three min_three max_four min_four
set_option linter.unusedVariables false
set_option linter.unusedSimpArgs false

/-! ### tegularef45_Ops: function 33 -/
mutual
def tegularef45_Ops.l0 : Nat → List (S39) → List (S59) → Int → Int → Option ((List (S59)) × Int)
  | 0, _, _, _, _ => none
  | k + 1, x0, x4, x5, x6 => if x6 < (x0.length : Int) then (if 0 ≤ x6 then (if ((rd_T39 x0 x6).f0) = 3 then (tegularef45_Ops.l0 k x0 x4 (wrap64 (x5 + 1)) (wrap64 (x6 + 1))) else (if ((rd_T39 x0 x6).f0) = 1 then (if x4.length < 2513169434916 then (tegularef45_Ops.l0 k x0 (x4 ++ [(⟨(rd_T39 x0 x6).f1, (rd_T39 x0 x6).f3, (rd_T39 x0 x6).f4, (rd_T39 x0 x6).f2, (rd_T39 x0 x6).f5, x5, x6, (-1)⟩ : S59)]) x5 (wrap64 (x6 + 1))) else (none)) else (tegularef45_Ops.l1 k x0 x4 x5 x6 0 ((rd_T39 x0 x6).f0) ((rd_T39 x0 x6).f1) ((rd_T39 x0 x6).f2) ((rd_T39 x0 x6).f3) ((rd_T39 x0 x6).f4) ((rd_T39 x0 x6).f5)))) else (none)) else (some (x4, 0))
def tegularef45_Ops.l1 : Nat → List (S39) → List (S59) → Int → Int → Int → Int → Int → Bool → Int → Int → Bool → Option ((List (S59)) × Int)
  | 0, _, _, _, _, _, _, _, _, _, _, _ => none
  | k + 1, x0, x4, x5, x6, x8, x179000, x179001, x179002, x179003, x179004, x179005 => if x8 < (x4.length : Int) then (if 0 ≤ x8 then (if ((rd_T59 x4 x8).f0) = x179001 then ((some (x4.set (x8 : Int).toNat (⟨(rd_T59 x4 x8).f0, (rd_T59 x4 x8).f1, x179004, (rd_T59 x4 x8).f3, (rd_T59 x4 x8).f4, (rd_T59 x4 x8).f5, (rd_T59 x4 x8).f6, (rd_T59 x4 x8).f7⟩ : S59) : List (S59))).bind fun y183 => (tegularef45_Ops.l1 k x0 (y183.set (x8 : Int).toNat (⟨(rd_T59 y183 x8).f0, (rd_T59 y183 x8).f1, (rd_T59 y183 x8).f2, (rd_T59 y183 x8).f3, (rd_T59 y183 x8).f4, (rd_T59 y183 x8).f5, (rd_T59 y183 x8).f6, x6⟩ : S59)) x5 x6 (wrap64 (x8 + 1)) x179000 x179001 x179002 x179003 x179004 x179005)) else (tegularef45_Ops.l1 k x0 x4 x5 x6 (wrap64 (x8 + 1)) x179000 x179001 x179002 x179003 x179004 x179005)) else (none)) else (tegularef45_Ops.l0 k x0 x4 x5 (wrap64 (x6 + 1)))
end
def tegularef45_Ops.f (k : Nat) (l0 : List (S39)) : Option ((List (S59)) × Int) := (tegularef45_Valid.f l0).bind fun t176 => (if t176 = true then (tegularef45_Ops.l0 k l0 ([] : List (S59)) 0 0) else (some (([] : List (S59)), 1)))
theorem tegularef45_Ops.mono_l : ∀ k, (∀ y0 y1 y2 y3, LeO (tegularef45_Ops.l0 k y0 y1 y2 y3) (tegularef45_Ops.l0 (k + 1) y0 y1 y2 y3)) ∧ (∀ y0 y1 y2 y3 y4 y5 y6 y7 y8 y9 y10, LeO (tegularef45_Ops.l1 k y0 y1 y2 y3 y4 y5 y6 y7 y8 y9 y10) (tegularef45_Ops.l1 (k + 1) y0 y1 y2 y3 y4 y5 y6 y7 y8 y9 y10))
  | 0 => ⟨fun _ _ _ _ r h => by simp [tegularef45_Ops.l0] at h, fun _ _ _ _ _ _ _ _ _ _ _ r h => by simp [tegularef45_Ops.l1] at h⟩
  | k + 1 => by
    obtain ⟨ih0, ih1⟩ := tegularef45_Ops.mono_l k
    refine ⟨?_, ?_⟩
    · intro y0 y1 y2 y3
      unfold tegularef45_Ops.l0
      repeat' first
      | (with_reducible exact ih0 _ _ _ _)
      | (with_reducible exact ih1 _ _ _ _ _ _ _ _ _ _ _)
      | (with_reducible exact LeO.refl _)
      | (with_reducible exact LeO.none _)
      | (with_reducible refine LeO.ite ?_ ?_)
      | (with_reducible refine LeO.bind ?_ (fun _ => ?_))
      | exact ih0 _ _ _ _
      | exact ih1 _ _ _ _ _ _ _ _ _ _ _
      | exact LeO.none _
      | refine LeO.ite ?_ ?_
      | refine LeO.bind ?_ (fun _ => ?_)
    · intro y0 y1 y2 y3 y4 y5 y6 y7 y8 y9 y10
      unfold tegularef45_Ops.l1
      repeat' first
      | (with_reducible exact ih0 _ _ _ _)
      | (with_reducible exact ih1 _ _ _ _ _ _ _ _ _ _ _)
      | (with_reducible exact LeO.refl _)
      | (with_reducible exact LeO.none _)
      | (with_reducible refine LeO.ite ?_ ?_)
      | (with_reducible refine LeO.bind ?_ (fun _ => ?_))
      | exact ih0 _ _ _ _
      | exact ih1 _ _ _ _ _ _ _ _ _ _ _
      | exact LeO.none _
      | refine LeO.ite ?_ ?_
      | refine LeO.bind ?_ (fun _ => ?_)
theorem tegularef45_Ops.mono : ∀ a0 k, LeO (tegularef45_Ops.f k a0) (tegularef45_Ops.f (k + 1) a0) := by
  intro a0 k
  obtain ⟨ih0, ih1⟩ := tegularef45_Ops.mono_l k
  unfold tegularef45_Ops.f
  repeat' first
      | (with_reducible exact ih0 _ _ _ _)
      | (with_reducible exact ih1 _ _ _ _ _ _ _ _ _ _ _)
      | (with_reducible exact LeO.refl _)
      | (with_reducible exact LeO.none _)
      | (with_reducible refine LeO.ite ?_ ?_)
      | (with_reducible refine LeO.bind ?_ (fun _ => ?_))
      | exact ih0 _ _ _ _
      | exact ih1 _ _ _ _ _ _ _ _ _ _ _
      | exact LeO.none _
      | refine LeO.ite ?_ ?_
      | refine LeO.bind ?_ (fun _ => ?_)
end Go.Proofs.Ytidghmgaaenihaa.Q

/-! part ROps -/
namespace Go.Proofs.Ytidghmgaaenihaa.Q
open Go.RowKit Go.Proofs.YtidghmgaaenihaaW.PrintWords Go.Proofs.YtidghmgaaenihaaW.PrintLast Go.Proofs.YtidghmgaaenihaaW.PrintMore
set_option linter.unusedVariables false
set_option linter.unusedSimpArgs false

end Go.Proofs.Ytidghmgaaenihaa.Q

/-! part Qe59 -/
namespace Go.Proofs.Ytidghmgaaenihaa.Q
open Go.RowKit Go.Proofs.YtidghmgaaenihaaW.PrintWords Go.Proofs.YtidghmgaaenihaaW.PrintLast Go.Proofs.YtidghmgaaenihaaW.PrintMore
attribute [local go_sem] max2_int min2_int max_two min_two max_three min_three max_four min_four
set_option linter.unusedVariables false
set_option linter.unusedSimpArgs false

theorem eqA59 (d : Nat) (w : World) (x0 y0 : Int) (x1 y1 : Int) (x2 y2 : Int) (x3 y3 : Bool) (x4 y4 : Bool) (x5 y5 : Int) (x6 y6 : Int) (x7 y7 : Int) :
    (Op.equalIn (d + 2) 59 (.agg #[.int .i64 x0, .int .i64 x1, .int .i64 x2, .bool x3, .bool x4, .int .i64 x5, .int .i64 x6, .int .i64 x7]) (.agg #[.int .i64 y0, .int .i64 y1, .int .i64 y2, .bool y3, .bool y4, .int .i64 y5, .int .i64 y6, .int .i64 y7])).run Try.prog w = .ok (x0 == y0 && (x1 == y1 && (x2 == y2 && (x3 == y3 && (x4 == y4 && (x5 == y5 && (x6 == y6 && (x7 == y7)))))))) w := by
  refine eqA_of Try.underlying59 (by kernel_rfl) ?_
  refine eqf_cons (by rfl) (by go_simp; rfl) (by go_simp; rfl) (by go_simp) ?_
  refine eqf_cons (by rfl) (by go_simp; rfl) (by go_simp; rfl) (by go_simp) ?_
  refine eqf_cons (by rfl) (by go_simp; rfl) (by go_simp; rfl) (by go_simp) ?_
  refine eqf_cons (by rfl) (by go_simp; rfl) (by go_simp; rfl) (by go_simp) ?_
  refine eqf_cons (by rfl) (by go_simp; rfl) (by go_simp; rfl) (by go_simp) ?_
  refine eqf_cons (by rfl) (by go_simp; rfl) (by go_simp; rfl) (by go_simp) ?_
  refine eqf_cons (by rfl) (by go_simp; rfl) (by go_simp; rfl) (by go_simp) ?_
  exact eqf_last (by rfl) (by go_simp; rfl) (by go_simp; rfl) (by go_simp)
end Go.Proofs.Ytidghmgaaenihaa.Q

/-! part Q10 -/
namespace Go.Proofs.Ytidghmgaaenihaa.Q
open Go.RowKit Go.Proofs.YtidghmgaaenihaaW.PrintWords Go.Proofs.YtidghmgaaenihaaW.PrintLast Go.Proofs.YtidghmgaaenihaaW.PrintMore
attribute [local go_sem] max2_int min2_int max_two min_two max_three min_three max_four min_four
set_option linter.unusedVariables false
set_option linter.unusedSimpArgs false

attribute [local go_sem high] eqA60 eqA59
/-! ### tegulalaw45_HistoryOps: function 10 -/
mutual
def tegulalaw45_HistoryOps.j0 : Nat → List (S60) → List (S59) → Bool → Option (Bool)
  | 0, _, _, _ => none
  | k + 1, x3, x5, x32 => if x32 = true then (some false) else (tegulalaw45_HistoryOps.l0 k x3 x5 0)
def tegulalaw45_HistoryOps.l0 : Nat → List (S60) → List (S59) → Int → Option (Bool)
  | 0, _, _, _ => none
  | k + 1, x3, x5, x7 => if x7 < (x3.length : Int) then (if 0 ≤ x7 then (if x7 < (x5.length : Int) then (if (!(((rd_T60 x3 x7).f0) == ((rd_T59 x5 x7).f0)) || (!(((rd_T60 x3 x7).f1) == ((rd_T59 x5 x7).f1)) || (!(((rd_T60 x3 x7).f2) == ((rd_T59 x5 x7).f2)) || (!(((rd_T60 x3 x7).f3) == ((rd_T59 x5 x7).f3)) || (!(((rd_T60 x3 x7).f4) == ((rd_T59 x5 x7).f4)) || (!(((rd_T60 x3 x7).f5) == ((rd_T59 x5 x7).f5)) || (!(((rd_T60 x3 x7).f6) == ((rd_T59 x5 x7).f6)) || (!(((rd_T60 x3 x7).f7) == ((rd_T59 x5 x7).f7)))))))))) = true then (some false) else (tegulalaw45_HistoryOps.l0 k x3 x5 (wrap64 (x7 + 1)))) else (none)) else (none)) else (some true)
end
def tegulalaw45_HistoryOps.f (k : Nat) (l0 : List (S39)) : Option (Bool) := (tegulalaw45_awake.f).bind fun t470 => (if t470 = true then (if (l0.length : Int) > 60 then (some true) else ((history_Ops.f l0).bind fun bt471 => ((tegularef45_Ops.f k l0).bind fun bt475 => (if bt471.2 = bt475.2 then (tegulalaw45_HistoryOps.j0 k bt471.1 bt475.1 ((bt471.1.length : Int) != (bt475.1.length : Int))) else (tegulalaw45_HistoryOps.j0 k bt471.1 bt475.1 true))))) else (some false))
theorem tegulalaw45_HistoryOps.mono_l : ∀ k, (∀ y0 y1 y2, LeO (tegulalaw45_HistoryOps.j0 k y0 y1 y2) (tegulalaw45_HistoryOps.j0 (k + 1) y0 y1 y2)) ∧ (∀ y0 y1 y2, LeO (tegulalaw45_HistoryOps.l0 k y0 y1 y2) (tegulalaw45_HistoryOps.l0 (k + 1) y0 y1 y2))
  | 0 => ⟨fun _ _ _ r h => by simp [tegulalaw45_HistoryOps.j0] at h, fun _ _ _ r h => by simp [tegulalaw45_HistoryOps.l0] at h⟩
  | k + 1 => by
    obtain ⟨ih0, ih1⟩ := tegulalaw45_HistoryOps.mono_l k
    refine ⟨?_, ?_⟩
    · intro y0 y1 y2
      unfold tegulalaw45_HistoryOps.j0
      repeat' first
      | (with_reducible exact ih0 _ _ _)
      | (with_reducible exact ih1 _ _ _)
      | (with_reducible exact tegularef45_Ops.mono _ _)
      | (with_reducible exact LeO.refl _)
      | (with_reducible exact LeO.none _)
      | (with_reducible refine LeO.ite ?_ ?_)
      | (with_reducible refine LeO.bind ?_ (fun _ => ?_))
      | exact ih0 _ _ _
      | exact ih1 _ _ _
      | exact tegularef45_Ops.mono _ _
      | exact LeO.none _
      | refine LeO.ite ?_ ?_
      | refine LeO.bind ?_ (fun _ => ?_)
    · intro y0 y1 y2
      unfold tegulalaw45_HistoryOps.l0
      repeat' first
      | (with_reducible exact ih0 _ _ _)
      | (with_reducible exact ih1 _ _ _)
      | (with_reducible exact tegularef45_Ops.mono _ _)
      | (with_reducible exact LeO.refl _)
      | (with_reducible exact LeO.none _)
      | (with_reducible refine LeO.ite ?_ ?_)
      | (with_reducible refine LeO.bind ?_ (fun _ => ?_))
      | exact ih0 _ _ _
      | exact ih1 _ _ _
      | exact tegularef45_Ops.mono _ _
      | exact LeO.none _
      | refine LeO.ite ?_ ?_
      | refine LeO.bind ?_ (fun _ => ?_)
theorem tegulalaw45_HistoryOps.mono : ∀ a0 k, LeO (tegulalaw45_HistoryOps.f k a0) (tegulalaw45_HistoryOps.f (k + 1) a0) := by
  intro a0 k
  obtain ⟨ih0, ih1⟩ := tegulalaw45_HistoryOps.mono_l k
  unfold tegulalaw45_HistoryOps.f
  repeat' first
      | (with_reducible exact ih0 _ _ _)
      | (with_reducible exact ih1 _ _ _)
      | (with_reducible exact tegularef45_Ops.mono _ _)
      | (with_reducible exact LeO.refl _)
      | (with_reducible exact LeO.none _)
      | (with_reducible refine LeO.ite ?_ ?_)
      | (with_reducible refine LeO.bind ?_ (fun _ => ?_))
      | exact ih0 _ _ _
      | exact ih1 _ _ _
      | exact tegularef45_Ops.mono _ _
      | exact LeO.none _
      | refine LeO.ite ?_ ?_
      | refine LeO.bind ?_ (fun _ => ?_)
end Go.Proofs.Ytidghmgaaenihaa.Q

/-! part PLaw10 -/
namespace Go.Proofs.Ytidghmgaaenihaa.Q
open Go.RowKit Go.Proofs.YtidghmgaaenihaaW.PrintWords Go.Proofs.YtidghmgaaenihaaW.PrintLast Go.Proofs.YtidghmgaaenihaaW.PrintMore
set_option linter.unusedVariables false
set_option linter.unusedSimpArgs false
end Go.Proofs.Ytidghmgaaenihaa.Q

/-! part PLaw12 -/
namespace Go.Proofs.Ytidghmgaaenihaa.Q
open Go.RowKit Go.Proofs.YtidghmgaaenihaaW.PrintWords Go.Proofs.YtidghmgaaenihaaW.PrintLast Go.Proofs.YtidghmgaaenihaaW.PrintMore
set_option linter.unusedVariables false
set_option linter.unusedSimpArgs false
theorem rd60_opn (xs : List S60) (i : Nat) : rd_T60 xs (i : Int) = opAt xs i := by
  unfold rd_T60 opAt
  rw [Int.toNat_natCast]
  rfl
theorem wrap_small2 {x : Int} (h0 : 0 ≤ x) (h1 : x < 9223372036854775807) : wrap64 x = x := by
  unfold wrap64; omega
theorem law12_l0 {a b : List S60} (hg : Grew a b) (hb : b.length ≤ 1000000) : ∀ d x, b.length - x = d → x ≤ b.length → tegulalaw45_HistoryPrefixes.l0 (d + 1) a b (x : Nat) = some true
  | 0, x, hd, hx => by
    obtain rfl : x = b.length := by omega
    rw [tegulalaw45_HistoryPrefixes.l0, if_neg (by omega)]
  | d + 1, x, hd, hx => by
    have hlt : x < b.length := by omega
    obtain ⟨h1, h2, h3, h4⟩ := hg.2 x hlt
    have hla := hg.1
    rw [tegulalaw45_HistoryPrefixes.l0, if_pos (by omega), if_pos (by omega), if_pos (by omega), rd60_opn, rd60_opn, if_pos h1, if_pos h2, if_pos h3, wrap_succ (by omega) (by omega)]
    have ih := law12_l0 hg hb d (x + 1) (by omega) (by omega)
    by_cases h7 : (opAt b x).f7 ≥ 0
    · rw [if_pos h7, h4 h7, if_neg (by simp)]
      exact ih
    · rw [if_neg h7]
      exact ih
theorem law12_pure (l : List S69) (hok : ∀ x ∈ l, okAct45 x) (a : Int) (ha : 0 ≤ a ∧ a < 256) : ∃ k, tegulalaw45_HistoryPrefixes.f k l a = some true := by
  by_cases hl : l.length ≤ 40
  · obtain ⟨hlen, _, _⟩ := recN_len l l.length (Nat.le_refl _)
    have hv := rec_valid l
    have hR : tegularef45_Record.f l = some ((recN l l.length).1, (recN l l.length).2.1) := record_f l hok (by omega)
    generalize recN l l.length = r at hlen hv hR
    obtain ⟨L, rs, n⟩ := r
    simp only at hlen hv hR
    obtain ⟨s, hs⟩ := Option.isSome_iff_exists.1 hv
    have hm0 : 0 ≤ a % ((L.length : Int) + 1) := Int.emod_nonneg _ (by omega)
    have hm1 := Int.emod_lt_of_pos a (show (0 : Int) < (L.length : Int) + 1 by omega)
    have hw : Int.tmod (wrap64 a) (wrap64 ((L.length : Int) + 1)) = a % ((L.length : Int) + 1) := by
      rw [wrap_small2 ha.1 (by omega), wrap_small2 (by omega) (by omega), Int.tmod_eq_emod_of_nonneg ha.1]
    obtain ⟨s0, hs0, hg⟩ := prefix_ops hs (k := (a % ((L.length : Int) + 1)).toNat) (by omega)
    have e1 : history_Ops.f L = some (s.1, 0) := by rw [history_Ops.f, if_pos (by omega)]; unfold opsP; rw [hs]
    have hl0 : (L.take (a % ((L.length : Int) + 1)).toNat).length ≤ 1000000 := by rw [List.length_take]; omega
    have e2 : history_Ops.f (L.take (a % ((L.length : Int) + 1)).toNat) = some (s0.1, 0) := by rw [history_Ops.f, if_pos hl0]; unfold opsP; rw [hs0]
    have e3 : history_Valid.f (L.take (a % ((L.length : Int) + 1)).toNat) = some true := by rw [history_Valid.f, if_pos hl0, hs0]; rfl
    have hlen0 : s0.1.length ≤ 1000000 := Nat.le_trans (ptake_inv _ _ hs0).len hl0
    have h4 := law12_l0 hg hlen0 s0.1.length 0 (by omega) (by omega)
    refine ⟨s0.1.length + 2, ?_⟩
    rw [tegulalaw45_HistoryPrefixes.f, tegulalaw45_awake.f, Option.bind_some, if_pos rfl, if_neg (by omega), hR, Option.bind_some]
    simp only
    rw [if_neg (by rw [wrap_small2 (by omega) (by omega)]; omega), hw, if_pos hm0, if_pos (by omega), Option.bind_some, e1, Option.bind_some, e2, Option.bind_some]
    simp only
    rw [if_pos trivial, if_pos trivial, e3, Option.bind_some, if_pos rfl, tegulalaw45_HistoryPrefixes.j0, if_neg (by have := hg.1; simp; omega)]
    exact h4
  · exact ⟨0, by rw [tegulalaw45_HistoryPrefixes.f, tegulalaw45_awake.f, Option.bind_some, if_pos rfl, if_pos (by omega)]⟩
theorem law12_walk (A : Option Addr) (c : Nat) (l : List S69) (a : Int) (w : World) (hr : Kd.C k69 w A l.length l) (hc : l.length ≤ c) (hok : ∀ x ∈ l, okAct45 x) (ha : (Lit.int .u8 a).wf = true) :
    Calls Try.prog 12 #[.slice A l.length c, .int .u8 a] w fun e w' => e = .returned (.bool true) ∧ Below w.heap.size w w' := by
  have h2 : IntKind.u8.min ≤ a ∧ a ≤ IntKind.u8.max := by simpa [Lit.wf] using ha
  have e1 : IntKind.u8.min = 0 := by decide
  have e2 : IntKind.u8.max = 255 := by decide
  obtain ⟨k, hk⟩ := law12_pure l hok a (by omega)
  exact tegulalaw45_HistoryPrefixes.calls k A c l a true w hr hc hk
end Go.Proofs.Ytidghmgaaenihaa.Q

/-! part HOpen -/
namespace Go.Proofs.Ytidghmgaaenihaa.Q
open Go.RowKit Go.Proofs.YtidghmgaaenihaaW.PrintWords Go.Proofs.YtidghmgaaenihaaW.PrintLast Go.Proofs.YtidghmgaaenihaaW.PrintMore
open Go.ChangeShapes Go.WideShapes Go.Deep
set_option linter.unusedVariables false
instance : Inhabited S39 := ⟨⟨0, 0, false, 0, 0, false⟩⟩
end Go.Proofs.Ytidghmgaaenihaa.Q

/-! part HOpen2 -/
namespace Go.Proofs.Ytidghmgaaenihaa.Q
open Go.RowKit Go.Proofs.YtidghmgaaenihaaW.PrintWords Go.Proofs.YtidghmgaaenihaaW.PrintLast Go.Proofs.YtidghmgaaenihaaW.PrintMore
open Go.ChangeShapes Go.WideShapes Go.Deep Go.WideMaps
set_option linter.unusedVariables false
theorem u8_range {a : Int} (h : (Lit.int .u8 a).wf = true) : 0 ≤ a ∧ a < 256 := by
  have h2 : IntKind.u8.min ≤ a ∧ a ≤ IntKind.u8.max := by simpa [Lit.wf] using h
  have e1 : IntKind.u8.min = 0 := by decide
  have e2 : IntKind.u8.max = 255 := by decide
  omega
end Go.Proofs.Ytidghmgaaenihaa.Q

/-! part HOpen3 -/
namespace Go.Proofs.Ytidghmgaaenihaa.Q
open Go.RowKit Go.Proofs.YtidghmgaaenihaaW.PrintWords Go.Proofs.YtidghmgaaenihaaW.PrintLast Go.Proofs.YtidghmgaaenihaaW.PrintMore
open Go.ChangeShapes Go.WideShapes Go.Deep
set_option linter.unusedVariables false
theorem cellsOf69 : Try.prog.cellsOf 69 = 3 := by kernel_rfl
instance : Inhabited S69 := ⟨⟨0, 0, 0⟩⟩
theorem one69 (fs : Array Field) (h : Try.prog.underlying 69 = some (.struct fs)) : oneCellFields Try.prog fs = true := by
  rw [Try.underlying69] at h
  cases h
  kernel_rfl
theorem i8_range {a : Int} (h : (Lit.int .i8 a).wf = true) : -128 ≤ a ∧ a < 128 := by
  have h2 : IntKind.i8.min ≤ a ∧ a ≤ IntKind.i8.max := by simpa [Lit.wf] using h
  have e1 : IntKind.i8.min = -128 := by decide
  have e2 : IntKind.i8.max = 127 := by decide
  omega
set_option maxRecDepth 100000 in
theorem act_cells {H : Type} {enc : TypeId × Value → H} {w : World} {base : Nat} {spare : Nat → Bool} {held : Bool} {fuel : Nat} {cs : List Value} {x : DataW H × List MemPlace}
    (h : DataW.trod enc Try.prog w base spare held fuel 69 cs = some x) : ∃ e : S69, cs = [.int .u8 e.f0, .int .i8 e.f1, .int .i8 e.f2] ∧ okAct45 e := by
  obtain ⟨ys, n, _, _, hlen, hyl, hf⟩ := DataW.trod_struct Try.underlying69 h
  rw [cellsOf69] at hlen
  match cs, hlen with
  | [c0, c1, c2], _ =>
    match ys, hyl with
    | [y0, y1, y2], _ =>
      have hone := hone_of (one69 _ Try.underlying69)
      have g0 := hf 0 _ rfl
      obtain ⟨o0, z0⟩ := hone 0 _ rfl
      rw [o0, z0] at g0
      obtain ⟨n0, e0, -, w0⟩ := DataW.trod_int Try.underlying5 (show DataW.trod enc Try.prog w base spare held n 5 [c0] = some y0 from g0)
      have g1 := hf 1 _ rfl
      obtain ⟨o1, z1⟩ := hone 1 _ rfl
      rw [o1, z1] at g1
      obtain ⟨n1, e1, -, w1⟩ := DataW.trod_int Try.underlying67 (show DataW.trod enc Try.prog w base spare held n 67 [c1] = some y1 from g1)
      have g2 := hf 2 _ rfl
      obtain ⟨o2, z2⟩ := hone 2 _ rfl
      rw [o2, z2] at g2
      obtain ⟨n2, e2, -, w2⟩ := DataW.trod_int Try.underlying67 (show DataW.trod enc Try.prog w base spare held n 67 [c2] = some y2 from g2)
      refine ⟨⟨n0, n1, n2⟩, ?_, u8_range w0, i8_range w1, i8_range w2⟩
      simp only [List.cons.injEq, and_true] at e0 e1 e2
      rw [e0, e1, e2]
theorem open_acts45 {H : Type} {enc : TypeId × Value → H} {w : World} {base : Nat} {spare : Nat → Bool} {held : Bool} {fuel : Nat} {A : Option Addr} {len cap : Nat} {x : DataW H × List MemPlace}
    (h : DataW.trod enc Try.prog w base spare held fuel 61 [.slice A len cap] = some x) : ∃ l : List S69, l.length = len ∧ len ≤ cap ∧ Kd.C k69 w A len l ∧ ∀ x ∈ l, okAct45 x := by
  rcases open_slice Try.underlying61 h with ⟨hcs, _⟩ | ⟨a, len', cap', m, n, D, Pl, hcs, hb, hl, hm, hmm, hx, hi⟩
  · simp only [List.cons.injEq, Value.slice.injEq, and_true] at hcs
    obtain ⟨rfl, rfl, rfl⟩ := hcs
    exact ⟨[], rfl, Nat.le_refl _, ⟨rfl, by decide, fun h => absurd h (by decide)⟩, fun x hx => by cases hx⟩
  · simp only [List.cons.injEq, Value.slice.injEq, and_true] at hcs
    obtain ⟨rfl, rfl, rfl⟩ := hcs
    rw [cellsOf69] at hi
    have each : ∀ i, i < len → ∃ e : S69, okAct45 e ∧ ∀ j u, [Value.int .u8 e.f0, .int .i8 e.f1, .int .i8 e.f2][j]? = some u → w.cell? (a.add (i * 3 + j)) = some u := by
      intro i hil
      have him : i < m := by rw [hmm]; split <;> omega
      obtain ⟨cs', hc, ht⟩ := hi i him
      obtain ⟨e, rfl, hok⟩ := act_cells ht
      obtain ⟨_, _, hat⟩ := World.cells?_some hc
      refine ⟨e, hok, fun j u hj => ?_⟩
      have hj3 : j < 3 := (List.getElem?_eq_some_iff.1 hj).1
      rw [← Go.Deep.add_add, hat j hj3, hj]
    obtain ⟨q, hq⟩ := choose_lt each
    refine ⟨(List.range len).map q, by simp, hl, ⟨by simp, Nat.le_trans (Nat.le_trans hl hm) (by decide), fun _ => ⟨a, rfl, fun j p hj => ?_⟩⟩, fun x hx => ?_⟩
    · rw [List.getElem?_map] at hj
      obtain ⟨j', hj', rfl⟩ := Option.map_eq_some_iff.1 hj
      obtain ⟨hjl, e⟩ := List.getElem?_eq_some_iff.1 hj'
      rw [List.getElem_range] at e
      subst e
      rw [List.length_range] at hjl
      exact ⟨_, rfl, k69_mk w (q j), fun i u hu => (hq j hjl).2 i u hu⟩
    · obtain ⟨j, hj, rfl⟩ := List.mem_map.1 hx
      exact (hq j (List.mem_range.1 hj)).1
end Go.Proofs.Ytidghmgaaenihaa.Q
