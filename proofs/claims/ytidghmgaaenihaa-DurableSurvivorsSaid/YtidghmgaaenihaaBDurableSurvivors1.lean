/- Texts of this claim, packed: RStale, RTrace, RSurv, PSurv, Q8, PLaw8, HOpen. -/
import Derived.Test.YtidghmgaaenihaaBDurableSurvivors0
import Derived.Test.YtidghmgaaenihaaQ0
import Derived.Test.YtidghmgaaenihaaHCheck
import Derived.Test.YtidghmgaaenihaaHSurv
import Derived.Test.YtidghmgaaenihaaQ19
import Derived.Deep.Slices
import Derived.Deep.Fields
import Derived.ChangeSame
/-! part RStale -/
namespace Go.Proofs.Ytidghmgaaenihaa.Q
open Go.RowKit Go.Proofs.YtidghmgaaenihaaW.PrintWords Go.Proofs.YtidghmgaaenihaaW.PrintLast Go.Proofs.YtidghmgaaenihaaW.PrintMore
set_option linter.unusedVariables false
set_option linter.unusedSimpArgs false

def hideR (ops : List S60) (s : Int) (o : S60) : Bool := decide (s < 0) || (precB (opAt ops s.toNat) o || decide ((opAt ops s.toNat).f5 < o.f5))
def staleAt (ops : List S60) (r : S60) (s : Int) (i : Nat) : Bool := (opAt ops i).f3 && ((opAt ops i).f1 == r.f1 && (!((i : Int) == s) && (finalR ops i r && hideR ops s (opAt ops i))))
def firstI (n : Nat) (p : Nat → Bool) : Int := match (List.range n).find? p with | some i => i | none => -1
theorem firstI_hit {n i : Nat} {p : Nat → Bool} (h : i < n) (hn : ∀ j, j < i → p j = false) (hp : p i = true) : firstI n p = i := by
  have : (List.range n).find? p = some i := by
    rw [List.find?_range_eq_some]
    exact ⟨hp, List.mem_range.2 h, fun j hj => by rw [hn j hj]; rfl⟩
  simp only [firstI, this]
theorem firstI_miss {n : Nat} {p : Nat → Bool} (hn : ∀ j, j < n → p j = false) : firstI n p = -1 := by
  have : (List.range n).find? p = none := by
    rw [List.find?_eq_none]; intro j hj; rw [hn j (List.mem_range.1 hj)]; decide
  simp only [firstI, this]

set_option maxHeartbeats 8000000 in
set_option maxRecDepth 100000 in
theorem stale_ref (A : Option Addr) (c : Nat) (l : List S60) (r : S60) (s : Int) (hc : l.length ≤ c) (hsz : l.length ≤ 1000000) (hs : s < l.length) (w : World) (hr : Kd.C k60 w A l.length l) :
    Calls Try.prog 58 #[.slice A l.length c, .agg #[.int .i64 r.f0, .int .i64 r.f1, .int .i64 r.f2, .bool r.f3, .bool r.f4, .int .i64 r.f5, .int .i64 r.f6, .int .i64 r.f7], .int .i64 s] w fun e w' => e = .returned (.int .i64 (firstI l.length (staleAt l r s))) ∧ Below w.heap.size w w' := by
  have HR := Aside0.mk hr
  clear hr
  have HFn := Aside0.mk (fun (ad : Addr) (i : Nat) (hi : i < l.length) (W : World) (h : Kd.C k60 W (some ad) l.length l) => final_ref ad c l i r hc hsz hi W h)
  obtain ⟨r0, r1, r2, r3, r4, r5, r6, r7⟩ := r
  simp only at HFn ⊢
  go_enter Try.func58, Try.ntmps58
  go_wp2
  have HB0 := Aside0.mk (below_alloc (Below.refl w.heap.size w) (.cells #[.int .i64 r0, .int .i64 r1, .int .i64 r2, .bool r3, .bool r4, .int .i64 r5, .int .i64 r6, .int .i64 r7] 59))
  have HBK := Aside0.mk (blk_new w (.cells #[.int .i64 r0, .int .i64 r1, .int .i64 r2, .bool r3, .bool r4, .int .i64 r5, .int .i64 r6, .int .i64 r7] 59))
  generalize (w.alloc (.cells #[.int .i64 r0, .int .i64 r1, .int .i64 r2, .bool r3, .bool r4, .int .i64 r5, .int .i64 r6, .int .i64 r7] 59)) = wb at HB0 HBK ⊢
  have hgl : w.heap.size < wb.heap.size := (Array.getElem?_eq_some_iff.1 HBK.out).1
  go_loopw [7] (fun v7 wr => ∃ x : Nat, x ≤ l.length ∧ v7 = .int .i64 x ∧ Aside0 (∀ i, i < x → staleAt l ⟨r0, r1, r2, r3, r4, r5, r6, r7⟩ s i = false) ∧ Aside0 (Below wb.heap.size wb wr))
    (fun v7 _ => l.length - (intOf v7).toNat)
  case atStart => exact ⟨0, by omega, rfl, ⟨fun i hi => absurd hi (by omega)⟩, ⟨Below.refl _ _⟩⟩
  case round =>
    obtain ⟨x, hx, rfl, HN, HW⟩ := hrel
    have HB := Aside0.mk (below_then HB0.out (below_size HB0.out) HW.out)
    by_cases hlt : x < l.length
    · have hltb : (x : Int) < (l.length : Int) := by omega
      have hxb : (x : Int) < 1000000 := by omega
      have hx0 : (0 : Int) ≤ x := by omega
      obtain ⟨ad, eA⟩ := row_some HR.out hlt
      subst eA
      obtain ⟨o, HOo⟩ : ∃ o, Aside0 (opAt l x = o) := ⟨_, ⟨rfl⟩⟩
      obtain ⟨b, hb⟩ : ∃ b, staleAt l ⟨r0, r1, r2, r3, r4, r5, r6, r7⟩ s x = b := ⟨_, rfl⟩
      have HF := Aside0.mk hb
      obtain ⟨fb, hfb⟩ : ∃ fb, finalR l x ⟨r0, r1, r2, r3, r4, r5, r6, r7⟩ = fb := ⟨_, rfl⟩
      have HFb := Aside0.mk hfb
      unfold staleAt at hb
      rw [HOo.out, hfb] at hb
      clear hfb
      have HRW := Aside0.mk (Kd.C_below HR.out HB.out)
      obtain ⟨g0, g1, g2, g3, g4, g5, g6, g7⟩ := at_op HRW.out x hlt
      rw [HOo.out] at g0 g1 g2 g3 g4 g5 g6 g7
      have HN2 := Aside0.mk (fun h : staleAt l ⟨r0, r1, r2, r3, r4, r5, r6, r7⟩ s x = false => (fun i hi => (Nat.lt_succ_iff_lt_or_eq.1 hi).elim (HN.out i) (fun e => e ▸ h) : ∀ i, i < x + 1 → staleAt l ⟨r0, r1, r2, r3, r4, r5, r6, r7⟩ s i = false))
      have HY := Aside0.mk (fun h : staleAt l ⟨r0, r1, r2, r3, r4, r5, r6, r7⟩ s x = true => firstI_hit hlt HN.out h)
      have HPr := Aside0.mk (fun a => prec93_calls a (opAt l x))
      rw [HOo.out] at HPr
      obtain ⟨o0, o1, o2, o3, o4, o5, o6, o7⟩ := o
      simp only at g0 g1 g2 g3 g4 g5 g6 g7 hb HPr
      clear g0 g1 g2 g3 g4 g5 g6 g7
      obtain ⟨g0, g1, g2, g3, g4, g5, g6, g7⟩ := at_op HRW.out x hlt
      rw [HOo.out] at g0 g1 g2 g3 g4 g5 g6 g7
      simp only at g0 g1 g2 g3 g4 g5 g6 g7
      have HBR := blk_old HBK.out HW.out
      have hgr : w.heap.size < wr.heap.size := (Array.getElem?_eq_some_iff.1 HBR).1
      have e0 : wr.cell? ⟨w.heap.size, 0, none⟩ = some (.int .i64 r0) := (blk_cell HBR 0).trans rfl
      have e1 : wr.cell? ⟨w.heap.size, 1, none⟩ = some (.int .i64 r1) := (blk_cell HBR 1).trans rfl
      have e2 : wr.cell? ⟨w.heap.size, 2, none⟩ = some (.int .i64 r2) := (blk_cell HBR 2).trans rfl
      have e3 : wr.cell? ⟨w.heap.size, 3, none⟩ = some (.bool r3) := (blk_cell HBR 3).trans rfl
      have e4 : wr.cell? ⟨w.heap.size, 4, none⟩ = some (.bool r4) := (blk_cell HBR 4).trans rfl
      have e5 : wr.cell? ⟨w.heap.size, 5, none⟩ = some (.int .i64 r5) := (blk_cell HBR 5).trans rfl
      have e6 : wr.cell? ⟨w.heap.size, 6, none⟩ = some (.int .i64 r6) := (blk_cell HBR 6).trans rfl
      have e7 : wr.cell? ⟨w.heap.size, 7, none⟩ = some (.int .i64 r7) := (blk_cell HBR 7).trans rfl
      clear HBR
      cases o3 with
      | false =>
        rw [Bool.false_and] at hb
        subst hb
        go_wp2
        go_roundw
        case rel => exact ⟨x + 1, by omega, by first | rfl | simp, ⟨HN2.out HF.out⟩, ⟨below_alloc HW.out _⟩⟩
        case measure => simp [intOf]; omega
      | true =>
        rw [Bool.true_and] at hb
        cases h1 : (o1 == r1) with
        | false =>
          have h1n : (o1 != r1) = true := by rw [bne, h1]; rfl
          rw [h1, Bool.false_and] at hb
          subst hb
          go_wp2
          go_roundw
          case rel => exact ⟨x + 1, by omega, by first | rfl | simp, ⟨HN2.out HF.out⟩, ⟨below_alloc HW.out _⟩⟩
          case measure => simp [intOf]; omega
        | true =>
          have h1n : (o1 != r1) = false := by rw [bne, h1]; rfl
          rw [h1, Bool.true_and] at hb
          cases hxs : ((x : Int) == s) with
          | true =>
            rw [hxs, Bool.not_true, Bool.false_and] at hb
            subst hb
            go_wp2
            go_roundw
            case rel => exact ⟨x + 1, by omega, by first | rfl | simp, ⟨HN2.out HF.out⟩, ⟨below_alloc HW.out _⟩⟩
            case measure => simp [intOf]; omega
          | false =>
            rw [hxs, Bool.not_false, Bool.true_and] at hb
            go_wp2_with fail
            (with_reducible refine (HFn.out ad x hlt _ (Kd.C_below HR.out (below_alloc HB.out _))).mono ?_)
            rintro e w2 ⟨rfl, hb2⟩
            rw [HFb.out]
            have HWA2 := Aside0.mk (below_step (below_alloc HW.out (.cells #[.int .i64 o0, .int .i64 o1, .int .i64 o2, .bool true, .bool o4, .int .i64 o5, .int .i64 o6, .int .i64 o7] 59)) hb2)
            have HWB2 := Aside0.mk (below_step (below_alloc HB.out (.cells #[.int .i64 o0, .int .i64 o1, .int .i64 o2, .bool true, .bool o4, .int .i64 o5, .int .i64 o6, .int .i64 o7] 59)) hb2)
            have HO2 := blk_old (blk_new wr (.cells #[.int .i64 o0, .int .i64 o1, .int .i64 o2, .bool true, .bool o4, .int .i64 o5, .int .i64 o6, .int .i64 o7] 59)) hb2
            clear hb2 g0 g1 g2 g3 g4 g5 g6 g7 e0 e1 e2 e3 e4 e5 e6 e7
            cases fb with
            | false =>
              rw [Bool.false_and] at hb
              subst hb
              go_wp2
              go_roundw
              case rel => exact ⟨x + 1, by omega, by first | rfl | simp, ⟨HN2.out HF.out⟩, HWA2⟩
              case measure => simp [intOf]; omega
            | true =>
              rw [Bool.true_and] at hb
              unfold hideR at hb
              have k0 : w2.cell? ⟨wr.heap.size, 0, none⟩ = some (.int .i64 o0) := (blk_cell HO2 0).trans rfl
              have k1 : w2.cell? ⟨wr.heap.size, 1, none⟩ = some (.int .i64 o1) := (blk_cell HO2 1).trans rfl
              have k2 : w2.cell? ⟨wr.heap.size, 2, none⟩ = some (.int .i64 o2) := (blk_cell HO2 2).trans rfl
              have k3 : w2.cell? ⟨wr.heap.size, 3, none⟩ = some (.bool true) := (blk_cell HO2 3).trans rfl
              have k4 : w2.cell? ⟨wr.heap.size, 4, none⟩ = some (.bool o4) := (blk_cell HO2 4).trans rfl
              have k5 : w2.cell? ⟨wr.heap.size, 5, none⟩ = some (.int .i64 o5) := (blk_cell HO2 5).trans rfl
              have k6 : w2.cell? ⟨wr.heap.size, 6, none⟩ = some (.int .i64 o6) := (blk_cell HO2 6).trans rfl
              have k7 : w2.cell? ⟨wr.heap.size, 7, none⟩ = some (.int .i64 o7) := (blk_cell HO2 7).trans rfl
              have x0 := after_cell k0
              have x1 := after_cell k1
              have x2 := after_cell k2
              have x3 := after_cell k3
              have x4 := after_cell k4
              have x5 := after_cell k5
              have x6 := after_cell k6
              have x7 := after_cell k7
              by_cases hs0 : s < 0
              · have hs0b : decide (s < 0) = true := decide_eq_true hs0
                rw [hs0b, Bool.true_or] at hb
                subst hb
                clear HO2 k0 k1 k2 k3 k4 k5 k6 k7
                go_wp2_with fail
                refine region_after (by kernel_rfl) (by kernel_rfl) ?_
                repeat (go_big_quiet_step (fail))
                clear x0 x1 x2 x3 x4 x5 x6 x7
                refine wpQuiet_nil ?_
                rintro _ ⟨u, rfl⟩
                obtain ⟨W1, hu⟩ := u
                simp only
                have HU := Aside0.mk (below_step HWA2.out hu)
                have HUB := Aside0.mk (below_step HWB2.out hu)
                clear hu
                go_wp2
                go_ret
                exact ⟨by rw [HY.out HF.out]; rfl, HUB.out⟩
              · have hs0b : decide (s < 0) = false := decide_eq_false hs0
                rw [hs0b, Bool.false_or] at hb
                obtain ⟨k, rfl⟩ : ∃ k : Nat, s = k := ⟨s.toNat, by omega⟩
                rw [Int.toNat_natCast] at hb
                have hkl : k < l.length := by omega
                have hkb : (k : Int) < (l.length : Int) := hs
                have hk0 : (0 : Int) ≤ k := by omega
                obtain ⟨z, HZ⟩ : ∃ z, Aside0 (opAt l k = z) := ⟨_, ⟨rfl⟩⟩
                rw [HZ.out] at hb
                obtain ⟨z0, z1, z2, z3, z4, z5, z6, z7⟩ := at_op (Kd.C_below HR.out HWB2.out) k hkl
                rw [HZ.out] at z0 z1 z2 z3 z4 z5 z6 z7
                have HPz := Aside0.mk (HPr.out z)
                obtain ⟨p, hp⟩ : ∃ p, precB z ⟨o0, o1, o2, true, o4, o5, o6, o7⟩ = p := ⟨_, rfl⟩
                rw [hp] at hb HPz
                obtain ⟨q0, q1, q2, q3, q4, q5, q6, q7⟩ := z
                simp only at z0 z1 z2 z3 z4 z5 z6 z7 hb HPz
                have y0 := after_cell z0
                have y1 := after_cell z1
                have y2 := after_cell z2
                have y3 := after_cell z3
                have y4 := after_cell z4
                have y5 := after_cell z5
                have y6 := after_cell z6
                have y7 := after_cell z7
                clear hp HO2 k0 k1 k2 k3 k4 k5 k6 k7 z0 z1 z2 z3 z4 z5 z6 z7
                cases p with
                | true =>
                  rw [Bool.true_or] at hb
                  subst hb
                  go_wp2_with fail
                  refine region_after (by kernel_rfl) (by kernel_rfl) ?_
                  repeat (go_big_quiet_step ((go_at_call 93; exact after_call (HPz.out _))))
                  clear y0 y1 y2 y3 y4 y5 y6 y7 x0 x1 x2 x3 x4 x5 x6 x7
                  refine wpQuiet_nil ?_
                  rintro _ ⟨u, rfl⟩
                  obtain ⟨W1, hu⟩ := u
                  simp only
                  have HU := Aside0.mk (below_step HWA2.out hu)
                  have HUB := Aside0.mk (below_step HWB2.out hu)
                  clear hu
                  go_wp2
                  go_ret
                  exact ⟨by rw [HY.out HF.out]; rfl, HUB.out⟩
                | false =>
                  rw [Bool.false_or] at hb
                  subst hb
                  cases hd : decide (q5 < o5) with
                  | true =>
                    rw [hd] at HF
                    go_wp2_with fail
                    refine region_after (by kernel_rfl) (by kernel_rfl) ?_
                    repeat (go_big_quiet_step ((go_at_call 93; exact after_call (HPz.out _))))
                    clear y0 y1 y2 y3 y4 y5 y6 y7 x0 x1 x2 x3 x4 x5 x6 x7
                    refine wpQuiet_nil ?_
                    rintro _ ⟨u, rfl⟩
                    obtain ⟨W1, hu⟩ := u
                    simp only
                    have HU := Aside0.mk (below_step HWA2.out hu)
                    have HUB := Aside0.mk (below_step HWB2.out hu)
                    clear hu
                    go_wp2
                    go_ret
                    exact ⟨by rw [HY.out HF.out]; rfl, HUB.out⟩
                  | false =>
                    rw [hd] at HF
                    go_wp2_with fail
                    refine region_after (by kernel_rfl) (by kernel_rfl) ?_
                    repeat (go_big_quiet_step ((go_at_call 93; exact after_call (HPz.out _))))
                    clear y0 y1 y2 y3 y4 y5 y6 y7 x0 x1 x2 x3 x4 x5 x6 x7
                    refine wpQuiet_nil ?_
                    rintro _ ⟨u, rfl⟩
                    obtain ⟨W1, hu⟩ := u
                    simp only
                    have HU := Aside0.mk (below_step HWA2.out hu)
                    have HUB := Aside0.mk (below_step HWB2.out hu)
                    clear hu
                    go_wp2
                    go_roundw
                    case rel => exact ⟨x + 1, by omega, by first | rfl | simp, ⟨HN2.out HF.out⟩, HU⟩
                    case measure => simp [intOf]; omega
    · obtain rfl : x = l.length := by omega
      go_wp2
      go_ret
      exact ⟨by rw [firstI_miss HN.out]; rfl, HB.out⟩
end Go.Proofs.Ytidghmgaaenihaa.Q

/-! part RTrace -/
namespace Go.Proofs.Ytidghmgaaenihaa.Q
open Go.RowKit Go.Proofs.YtidghmgaaenihaaW.PrintWords Go.Proofs.YtidghmgaaenihaaW.PrintLast Go.Proofs.YtidghmgaaenihaaW.PrintMore
set_option linter.unusedVariables false
set_option linter.unusedSimpArgs false

def twin (ops : List S60) (i k : Nat) : Bool := (opAt ops k).f3 && ((opAt ops k).f1 == (opAt ops i).f1 && (opAt ops k).f2 == (opAt ops i).f2)
def badAt (ops : List S60) (i : Nat) : Bool := (opAt ops i).f3 && ((opAt ops i).f2 == 0 || (List.range i).any (twin ops i))
def traceQ (ops : List S60) (err : Int) : Bool := !(List.range ops.length).any (badAt ops) && err == 0
def traceR (l : List S39) : Bool := traceQ (opsP l).1 (opsP l).2
theorem opsP_len (l : List S39) : (opsP l).1.length ≤ l.length := by
  unfold opsP
  cases h : parseP l with
  | none => simp
  | some s => exact (ptake_inv l l.length h).len
theorem trace_bad {ops : List S60} {err : Int} {i : Nat} (hi : i < ops.length) (h : badAt ops i = true) : traceQ ops err = false := by rw [traceQ, range_yes hi h]; rfl
theorem trace_ok {ops : List S60} {err : Int} (h : ∀ i, i < ops.length → badAt ops i = false) : traceQ ops err = (err == 0) := by rw [traceQ, range_no h]; rfl

set_option maxHeartbeats 4000000 in
set_option maxRecDepth 100000 in
theorem trace_ref (A : Option Addr) (c : Nat) (l : List S39) (w : World) (hr : Kd.C k39 w A l.length l) (hc : l.length ≤ c) (hsz : l.length ≤ 1000000) :
    Calls Try.prog 30 #[.slice A l.length c] w fun e w' => e = .returned (.bool (traceR l)) ∧ Below w.heap.size w w' := by
  have HR := Aside0.mk hr
  clear hr
  have hol := opsP_len l
  have HO := Aside0.mk (fun (W : World) (h : Kd.C k39 W A l.length l) => ops_ref A c l W h hc hsz)
  unfold traceR
  generalize (opsP l).1 = ops at HO hol ⊢
  generalize (opsP l).2 = err at HO ⊢
  go_enter Try.func30, Try.ntmps30
  go_wp2_with fail
  (with_reducible refine (HO.out _ HR.out).mono ?_)
  rintro e w1 ⟨A1, c1, rfl, hC, hc1, hB⟩
  have HC := Aside0.mk hC
  have HB := Aside0.mk hB
  clear hC hB
  have hosz : ops.length ≤ 1000000 := by omega
  go_wp2
  go_loopw [5, 6] (fun v5 v6 wr => ∃ x : Nat, x ≤ ops.length ∧ v5 = .int .i64 x ∧ Aside0 (∀ i, i < x → badAt ops i = false) ∧ Aside0 (Below w1.heap.size w1 wr))
    (fun v5 _ _ => ops.length - (intOf v5).toNat)
  case atStart => exact ⟨0, by omega, rfl, ⟨fun i hi => absurd hi (by omega)⟩, ⟨Below.refl _ _⟩⟩
  case round =>
    obtain ⟨x, hx, rfl, HN, HW⟩ := hrel
    by_cases hlt : x < ops.length
    · have hltb : (x : Int) < (ops.length : Int) := by omega
      have hxb : (x : Int) < 1000000 := by omega
      have hx0 : (0 : Int) ≤ x := by omega
      obtain ⟨ad, eA⟩ := row_some HC.out hlt
      subst eA
      have HCW := Aside0.mk (Kd.C_below HC.out HW.out)
      obtain ⟨g0, g1, g2, g3, g4, g5, g6, g7⟩ := at_op HCW.out x hlt
      obtain ⟨o, HOo⟩ : ∃ o, Aside0 (opAt ops x = o) := ⟨_, ⟨rfl⟩⟩
      rw [HOo.out] at g0 g1 g2 g3 g4 g5 g6 g7
      have HN2 := Aside0.mk (fun h : badAt ops x = false => (fun i hi => (Nat.lt_succ_iff_lt_or_eq.1 hi).elim (HN.out i) (fun e => e ▸ h) : ∀ i, i < x + 1 → badAt ops i = false))
      have HY := Aside0.mk (fun h : badAt ops x = true => (trace_bad hlt h : traceQ ops err = false))
      have HD : Aside0 (badAt ops x = (o.f3 && (o.f2 == 0 || (List.range x).any (twin ops x)))) := ⟨by rw [badAt, HOo.out]⟩
      have HTw : Aside0 (∀ k, twin ops x k = ((opAt ops k).f3 && ((opAt ops k).f1 == o.f1 && (opAt ops k).f2 == o.f2))) := ⟨fun k => by rw [twin, HOo.out]⟩
      obtain ⟨o0, o1, o2, o3, o4, o5, o6, o7⟩ := o
      simp only at g0 g1 g2 g3 g4 g5 g6 g7
      cases o3 with
      | false =>
        go_wp2
        go_roundw
        case rel => exact ⟨x + 1, by omega, by first | rfl | simp, ⟨HN2.out (by rw [HD.out]; rfl)⟩, HW⟩
        case measure => simp [intOf]; omega
      | true =>
        by_cases h20 : o2 = 0
        · subst h20
          go_wp2
          go_ret
          exact ⟨by rw [HY.out (by rw [HD.out]; rfl)]; rfl, below_then HB.out (below_size HB.out) HW.out⟩
        · have h20b : (o2 == 0) = false := by simpa using h20
          have HD2 : Aside0 (badAt ops x = (List.range x).any (twin ops x)) := ⟨by rw [HD.out]; simp [h20b]⟩
          clear h20
          go_wp2
          obtain ⟨wb, HWB⟩ : ∃ wb, Aside0 (wb = wr) := ⟨_, ⟨rfl⟩⟩
          clear g0 g1 g2 g3 g4 g5 g6 g7
          go_loopw [6] (fun v6 wr2 => ∃ y : Nat, y ≤ x ∧ v6 = .int .i64 y ∧ Aside0 (∀ i, i < y → twin ops x i = false) ∧ Aside0 (Below w1.heap.size w1 wr2))
            (fun v6 _ => x - (intOf v6).toNat)
          case atStart => exact ⟨0, by omega, rfl, ⟨fun i hi => absurd hi (by omega)⟩, HW⟩
          case round =>
            obtain ⟨y, hy, rfl, HM, HW2⟩ := hrel
            by_cases hyl : y < x
            · have hylb : (y : Int) < (x : Int) := by omega
              have hyob : (y : Int) < (ops.length : Int) := by omega
              have hy0 : (0 : Int) ≤ y := by omega
              have hyb : (y : Int) < 1000000 := by omega
              have HCW2 := Aside0.mk (Kd.C_below HC.out HW2.out)
              obtain ⟨g0, g1, g2, g3, g4, g5, g6, g7⟩ := at_op HCW2.out x hlt
              rw [HOo.out] at g0 g1 g2 g3 g4 g5 g6 g7
              obtain ⟨z0, z1, z2, z3, z4, z5, z6, z7⟩ := at_op HCW2.out y (by omega)
              obtain ⟨q, HQ⟩ : ∃ q, Aside0 (opAt ops y = q) := ⟨_, ⟨rfl⟩⟩
              rw [HQ.out] at z0 z1 z2 z3 z4 z5 z6 z7
              have HM2 := Aside0.mk (fun h : twin ops x y = false => (fun i hi => (Nat.lt_succ_iff_lt_or_eq.1 hi).elim (HM.out i) (fun e => e ▸ h) : ∀ i, i < y + 1 → twin ops x i = false))
              have HT : Aside0 (twin ops x y = (q.f3 && (q.f1 == o1 && q.f2 == o2))) := ⟨by rw [HTw.out, HQ.out]⟩
              obtain ⟨q0, q1, q2, q3, q4, q5, q6, q7⟩ := q
              simp only at g0 g1 g2 g3 g4 g5 g6 g7 z0 z1 z2 z3 z4 z5 z6 z7
              cases q3 with
              | false =>
                go_wp2_with fail
                go_quiet (fail)
                go_wp2
                go_roundw
                case rel => exact ⟨y + 1, by omega, by first | rfl | simp, ⟨HM2.out (by rw [HT.out]; rfl)⟩, ⟨by repeat (first | exact HW2.out | apply below_alloc | apply pw_below_drewN)⟩⟩
                case measure => simp [intOf]; omega
              | true =>
                cases k1 : (q1 == o1) with
                | false =>
                  have HT2 : Aside0 (twin ops x y = false) := ⟨by rw [HT.out]; simp [k1]⟩
                  go_wp2_with fail
                  go_quiet (fail)
                  go_wp2
                  go_roundw
                  case rel => exact ⟨y + 1, by omega, by first | rfl | simp, ⟨HM2.out HT2.out⟩, ⟨by repeat (first | exact HW2.out | apply below_alloc | apply pw_below_drewN)⟩⟩
                  case measure => simp [intOf]; omega
                | true =>
                  cases k2 : (q2 == o2) with
                  | false =>
                    have HT2 : Aside0 (twin ops x y = false) := ⟨by rw [HT.out]; simp [k2]⟩
                    go_wp2_with fail
                    go_quiet (fail)
                    go_wp2
                    go_roundw
                    case rel => exact ⟨y + 1, by omega, by first | rfl | simp, ⟨HM2.out HT2.out⟩, ⟨by repeat (first | exact HW2.out | apply below_alloc | apply pw_below_drewN)⟩⟩
                    case measure => simp [intOf]; omega
                  | true =>
                    have HT2 : Aside0 (badAt ops x = true) := ⟨by rw [HD2.out]; exact range_yes hyl (by rw [HT.out]; simp [k1, k2])⟩
                    go_wp2_with fail
                    go_quiet (fail)
                    go_wp2
                    go_ret
                    exact ⟨by rw [HY.out HT2.out]; rfl, below_then HB.out (below_size HB.out) (by repeat (first | exact HW2.out | apply below_alloc | apply pw_below_drewN))⟩
            · obtain rfl : y = x := by omega
              go_wp2
              go_roundw
              case rel => exact ⟨y + 1, by omega, by first | rfl | simp, ⟨HN2.out (by rw [HD2.out]; exact range_no HM.out)⟩, HW2⟩
              case measure => simp [intOf]; omega
    · obtain rfl : x = ops.length := by omega
      have HZ := Aside0.mk (trace_ok HN.out : traceQ ops err = (err == 0))
      go_wp2
      go_ret
      exact ⟨by rw [HZ.out]; rfl, below_then HB.out (below_size HB.out) HW.out⟩
end Go.Proofs.Ytidghmgaaenihaa.Q

/-! part RSurv -/
namespace Go.Proofs.Ytidghmgaaenihaa.Q
open Go.RowKit Go.Proofs.YtidghmgaaenihaaW.PrintWords Go.Proofs.YtidghmgaaenihaaW.PrintLast Go.Proofs.YtidghmgaaenihaaW.PrintMore
set_option linter.unusedVariables false
set_option linter.unusedSimpArgs false

def tegularef47_Traceable.f (l0 : List S39) : Option Bool := if l0.length ≤ 1000000 then some (traceR l0) else none
theorem tegularef47_Traceable.calls (A0 : Option Addr) (c0 : Nat) (l0 : List S39) (r : Bool) (w : World) (hr0 : Kd.C k39 w A0 l0.length l0) (hc0 : l0.length ≤ c0) (h : tegularef47_Traceable.f l0 = some r) :
    Calls Try.prog 30 #[.slice A0 l0.length c0] w fun e w' => e = .returned (.bool r) ∧ Below w.heap.size w w' := by
  unfold tegularef47_Traceable.f at h
  split at h
  · rename_i hsz
    obtain rfl := Option.some.inj h
    exact trace_ref A0 c0 l0 w hr0 hc0 hsz
  · cases h
def survQf (cuts : Int) (ops : List S60) (i : Nat) : Option Int := if ((opAt ops i).f3 && (decide ((opAt ops i).f5 < cuts) && survR ops i)) = true then some (opAt ops i).f0 else none
def survQ (l : List S39) : List Int × Int := if traceR l = true then ((List.range (opsP l).1.length).filterMap (survQf (cutsN l) (opsP l).1), 0) else ([], 1)
def tegularef47_Survivors.f (l0 : List S39) : Option (List Int × Int) := if l0.length ≤ 1000000 then some (survQ l0) else none
theorem range_next {β : Type} (f : Nat → Option β) (x : Nat) : (List.range (x + 1)).filterMap f = (List.range x).filterMap f ++ (match f x with | some y => [y] | none => []) := by
  rw [List.range_succ, List.filterMap_append]
  cases hf : f x <;> simp [hf]
theorem range_map_len {β : Type} (f : Nat → Option β) (x : Nat) : ((List.range x).filterMap f).length ≤ x := by
  have := List.length_filterMap_le f (List.range x)
  rwa [List.length_range] at this

set_option maxHeartbeats 4000000 in
set_option maxRecDepth 100000 in
theorem surv_ref (A : Option Addr) (c : Nat) (l : List S39) (w : World) (hr : Kd.C k39 w A l.length l) (hc : l.length ≤ c) (hsz : l.length ≤ 1000000) :
    Calls Try.prog 28 #[.slice A l.length c] w (SurvPost (survQ l).1 (survQ l).2 w) := by
  have HR := Aside0.mk hr
  clear hr
  have hol := opsP_len l
  have HO := Aside0.mk (fun (W : World) (h : Kd.C k39 W A l.length l) => ops_ref A c l W h hc hsz)
  obtain ⟨tb, htb⟩ : ∃ tb, traceR l = tb := ⟨_, rfl⟩
  have HT := Aside0.mk (fun (W : World) (h : Kd.C k39 W A l.length l) => trace_ref A c l W h hc hsz)
  rw [htb] at HT
  cases tb with
  | false =>
    have HQ : Aside0 (survQ l = ([], 1)) := ⟨by rw [survQ, htb]; rfl⟩
    rw [HQ.out]
    clear htb
    go_enter Try.func28, Try.ntmps28
    go_wp2_with fail
    (with_reducible refine (HT.out _ HR.out).mono ?_)
    rintro e w1 ⟨rfl, hB⟩
    have HB := Aside0.mk hB
    clear hB
    go_wp2
    go_ret2
    exact ⟨_, rfl, Kd.R_nil _ _ _ _ _, HB.out⟩
  | true =>
    have HQ : Aside0 (survQ l = ((List.range (opsP l).1.length).filterMap (survQf (cutsN l) (opsP l).1), 0)) := ⟨by rw [survQ, htb]; rfl⟩
    rw [HQ.out]
    clear htb HQ
    generalize (opsP l).1 = ops at HO hol ⊢
    generalize (opsP l).2 = err at HO
    go_enter Try.func28, Try.ntmps28
    go_wp2_with fail
    (with_reducible refine (HT.out _ HR.out).mono ?_)
    rintro e w1 ⟨rfl, hB⟩
    have HB1 := Aside0.mk hB
    clear hB
    go_wp2
    go_loopw [4, 5] (fun v4 v5 wr => ∃ x n : Int, 0 ≤ x ∧ x ≤ l.length ∧ 0 ≤ n ∧ n ≤ x ∧ v5 = .int .i64 x ∧ v4 = .int .i64 n ∧ Aside0 (n = cutsN (l.take x.toNat)) ∧ Aside0 (Below w.heap.size w wr))
      (fun _ v5 _ => l.length - (intOf v5).toNat)
    case atStart => exact ⟨0, 0, by omega, by omega, by omega, by omega, rfl, rfl, ⟨rfl⟩, HB1⟩
    case round =>
      obtain ⟨x, n, hx0, hx1, hn0, hn1, rfl, rfl, HN, HW⟩ := hrel
      by_cases hlt : x < l.length
      · obtain ⟨ad, eA, s0, s1, s2, s3, s4, s5⟩ := at_T39 (Kd.C_below HR.out HW.out) x hx0 hlt
        subst eA
        have HCN := Aside0.mk (cuts_next hx0 hlt)
        obtain ⟨e, HE⟩ : ∃ e, Aside0 (rd_T39 l x = e) := ⟨_, ⟨rfl⟩⟩
        rw [HE.out] at s0 s1 s2 s3 s4 s5 HCN
        obtain ⟨e0, e1, e2, e3, e4, e5⟩ := e
        simp only at s0 s1 s2 s3 s4 s5 HCN
        by_cases h3 : e0 = 3
        · have h3' : (e0 == 3) = true := by simpa using h3
          have HC2 := Aside0.mk (show n + 1 = cutsN (l.take (x + 1).toNat) by rw [HCN.out, if_pos h3, HN.out])
          clear h3
          go_wp2
          go_roundw
          case rel => exact ⟨x + 1, n + 1, by omega, by omega, by omega, by omega, rfl, rfl, HC2, HW⟩
          case measure => simp [intOf]; omega
        · have h3' : (e0 == 3) = false := by simpa using h3
          have HC2 := Aside0.mk (show n = cutsN (l.take (x + 1).toNat) by rw [HCN.out, if_neg h3, HN.out]; omega)
          clear h3
          go_wp2
          go_roundw
          case rel => exact ⟨x + 1, n, by omega, by omega, by omega, by omega, rfl, rfl, HC2, HW⟩
          case measure => simp [intOf]; omega
      · obtain rfl : x = l.length := by omega
        rw [show ((l.length : Int)).toNat = l.length by omega, List.take_length] at HN
        go_wp2_with fail
        (with_reducible refine (HO.out _ (Kd.C_below HR.out HW.out)).mono ?_)
        rintro e wb ⟨A1, c1, rfl, hC, hc1, hB⟩
        have HC := Aside0.mk hC
        have HBB := Aside0.mk (below_step HW.out hB)
        clear hC hB HW
        have hosz : ops.length ≤ 1000000 := by omega
        go_wp2
        go_loopw [8, 9] (fun v8 v9 wr => ∃ x : Nat, x ≤ ops.length ∧ v9 = .int .i64 x ∧ Aside0 (Kd.R (Kd.int .i64) 3 wr wb.heap.size (fun _ => True) v8 ((List.range x).filterMap (survQf n ops))) ∧ Aside0 (Below wb.heap.size wb wr))
          (fun _ v9 _ => ops.length - (intOf v9).toNat)
        case atStart => exact ⟨0, by omega, rfl, ⟨Kd.R_nil _ _ _ _ _⟩, ⟨Below.refl _ _⟩⟩
        case round =>
          obtain ⟨x, hx, rfl, HOw, HW⟩ := hrel
          by_cases hlt : x < ops.length
          · have hltb : (x : Int) < (ops.length : Int) := by omega
            have hxb : (x : Int) < 1000000 := by omega
            have hx0 : (0 : Int) ≤ x := by omega
            obtain ⟨ad, eA⟩ := row_some HC.out hlt
            subst eA
            obtain ⟨g0, g1, g2, g3, g4, g5, g6, g7⟩ := at_op (Kd.C_below HC.out HW.out) x hlt
            obtain ⟨o, HOo⟩ : ∃ o, Aside0 (opAt ops x = o) := ⟨_, ⟨rfl⟩⟩
            rw [HOo.out] at g0 g1 g2 g3 g4 g5 g6 g7
            obtain ⟨sv, hsv⟩ : ∃ sv, survR ops x = sv := ⟨_, rfl⟩
            have HSO : Aside0 (survQf n ops x = if (o.f3 && (decide (o.f5 < n) && sv)) = true then some o.f0 else none) := ⟨by rw [survQf, HOo.out, hsv]⟩
            have HTM := Aside0.mk (range_next (survQf n ops) x)
            have LM := Aside0.mk (Nat.le_trans (range_map_len (survQf n ops) x) (show x ≤ 1000000 by omega))
            have HSv := Aside0.mk hsv
            clear hsv
            obtain ⟨o0, o1, o2, o3, o4, o5, o6, o7⟩ := o
            simp only at g0 g1 g2 g3 g4 g5 g6 g7 HSO
            rw [HSO.out] at HTM
            cases o3 with
            | false =>
              go_wp2
              go_roundw
              case rel => exact ⟨x + 1, by omega, by first | rfl | simp, ⟨by rw [HTM.out]; simp only [Bool.false_and, Bool.false_eq_true, if_false, List.append_nil]; exact HOw.out⟩, HW⟩
              case measure => simp [intOf]; omega
            | true =>
              cases h5 : decide (o5 < n) with
              | false =>
                rw [h5] at HTM
                go_wp2
                go_roundw
                case rel => exact ⟨x + 1, by omega, by first | rfl | simp, ⟨by rw [HTM.out]; simp only [Bool.true_and, Bool.false_and, Bool.false_eq_true, if_false, List.append_nil]; exact HOw.out⟩, HW⟩
                case measure => simp [intOf]; omega
              | true =>
                rw [h5] at HTM
                go_wp2_with fail
                (with_reducible refine (surv_loop_ref ad c1 ops x hc1 hosz hlt _ (Kd.C_below HC.out HW.out)).mono ?_)
                rintro e w3 ⟨rfl, hb3⟩
                rw [HSv.out]
                have HW3 := Aside0.mk (below_step HW.out hb3)
                have HO3 := Aside0.mk (Kd.R_below HOw.out hb3)
                clear hb3 g0 g1 g2 g3 g4 g5 g6 g7
                cases sv with
                | false =>
                  go_wp2
                  go_roundw
                  case rel => exact ⟨x + 1, by omega, by first | rfl | simp, ⟨by rw [HTM.out]; simp only [Bool.true_and, Bool.false_eq_true, if_false, List.append_nil]; exact HO3.out⟩, HW3⟩
                  case measure => simp [intOf]; omega
                | true =>
                  obtain ⟨g0, -⟩ := at_op (Kd.C_below HC.out HW3.out) x hlt
                  rw [HOo.out] at g0
                  simp only at g0
                  go_wp2_with (at_builtin; go_loud (refine Kd.R_append (Kd.int .i64) (w0 := wb) wb.heap.size rfl (.tmp 57) (.tmp 63) 40 3 (.int .i64 0) 8 rfl Try.underlying40 info3 rfl (by decide) (by omega) _ _ o0 [.int .i64 o0] (fun _ => True) (fun _ => False) rfl rfl rfl (fun _ hk => hk.elim) (fun _ _ => trivial) HO3.out HW3.out (below_size HW3.out) (by have := LM.out; omega) ?_); intro v1 w4 ho hb hg hat; have HO4 := Aside0.mk ho; have HB4 := Aside0.mk hb; clear ho hb hg hat)
                  go_roundw
                  case rel => exact ⟨x + 1, by omega, by first | rfl | simp, ⟨by rw [HTM.out]; simp only [Bool.true_and, if_true]; exact HO4.out⟩, HB4⟩
                  case measure => simp [intOf]; omega
          · obtain rfl : x = ops.length := by omega
            rw [HN.out] at HOw
            go_wp2
            go_ret2
            exact ⟨_, rfl, Kd.R_lower HOw.out (below_size HBB.out), below_then HBB.out (below_size HBB.out) HW.out⟩
theorem tegularef47_Survivors.calls (A0 : Option Addr) (c0 : Nat) (l0 : List S39) (r1 : List Int) (r2 : Int) (w : World) (hr0 : Kd.C k39 w A0 l0.length l0) (hc0 : l0.length ≤ c0) (h : tegularef47_Survivors.f l0 = some (r1, r2)) :
    Calls Try.prog 28 #[.slice A0 l0.length c0] w fun e w' => ∃ v0_ : Value, e = .returned (.tuple #[v0_, .int .i64 r2]) ∧ Kd.R (Kd.int .i64) 3 w' w.heap.size (fun _ => True) v0_ r1 ∧ Below w.heap.size w w' := by
  unfold tegularef47_Survivors.f at h
  split at h
  · rename_i hsz
    have e := Option.some.inj h
    have e1 : (survQ l0).1 = r1 := by rw [e]
    have e2 : (survQ l0).2 = r2 := by rw [e]
    have := surv_ref A0 c0 l0 w hr0 hc0 hsz
    rw [e1, e2] at this
    exact this
  · cases h
end Go.Proofs.Ytidghmgaaenihaa.Q

/-! part PSurv -/
namespace Go.Proofs.Ytidghmgaaenihaa.Q
open Go.RowKit
set_option linter.unusedVariables false
set_option linter.unusedSimpArgs false

theorem opAt_mem {ops : List S60} {i : Nat} (h : i < ops.length) : opAt ops i ∈ ops := by rw [opAt_get h]; exact List.getElem_mem _
theorem mem_opAt {ops : List S60} {o : S60} (h : o ∈ ops) : ∃ i, i < ops.length ∧ o = opAt ops i := by
  obtain ⟨i, hi, rfl⟩ := List.mem_iff_getElem.1 h
  exact ⟨i, hi, (opAt_get hi).symm⟩
theorem src_none {ops : List S60} {k : Nat} (hk : k ≤ ops.length) (r v : Int) : (srcIx (ops.take k) r v).isNone = !(List.range k).any (fun i => isSrc r v (opAt ops i)) := by
  cases h : srcIx (ops.take k) r v with
  | none =>
    have := List.findIdx?_eq_none_iff.1 h
    rw [range_no (fun i hi => ?_)]
    · rfl
    · refine this _ (List.mem_iff_getElem.2 ⟨i, by rw [List.length_take]; omega, ?_⟩)
      rw [List.getElem_take, opAt_get (by omega)]
  | some i =>
    obtain ⟨h1, h2, _⟩ := List.findIdx?_eq_some_iff_getElem.1 h
    rw [List.length_take] at h1
    rw [List.getElem_take, ← opAt_get (by omega)] at h2
    rw [range_yes (show i < k by omega) h2]
    rfl
theorem okAt_bad {l : List S39} {s : List S60 × Int} (hs : parseP l = some s) {k : Nat} (hk : k < s.1.length) : okAt s.1 k = !badAt s.1 k := by
  obtain ⟨c1, c2, c3, c4⟩ := (parse_tinv hs).cal _ (opAt_mem hk)
  unfold okAt badAt
  rw [src_none (by omega)]
  cases h3 : (opAt s.1 k).f3 with
  | false => rfl
  | true =>
    obtain ⟨c5, c6⟩ := c4 h3
    have e : (fun i => isSrc (opAt s.1 k).f1 (opAt s.1 k).f2 (opAt s.1 i)) = twin s.1 k := rfl
    rw [e]
    have e2 : decide (1 ≤ (opAt s.1 k).f2) = !((opAt s.1 k).f2 == 0) := by
      by_cases h0 : (opAt s.1 k).f2 = 0
      · simp [h0]
      · rw [decide_eq_true (by omega)]; simp [h0]
    rw [e2]
    cases ((opAt s.1 k).f2 == 0) <;> cases (List.range k).any (twin s.1 k) <;> rfl
theorem okW_all {l : List S39} {s : List S60 × Int} (hs : parseP l = some s) : ∀ k, k ≤ s.1.length → okW s.1 k = !(List.range k).any (badAt s.1)
  | 0, _ => rfl
  | k + 1, hk => by
    rw [okW, okW_all hs k (by omega), okAt_bad hs (by omega), List.range_succ, List.any_append]
    simp
theorem trace_eq (l : List S39) : traceR l = (beginP l).isSome := by
  unfold traceR traceQ beginP opsP
  cases hs : parseP l with
  | none => rfl
  | some s =>
    simp only
    rw [← okW_all hs _ (Nat.le_refl _)]
    cases okW s.1 s.1.length <;> rfl
theorem srcI_eq (ops : List S60) (r v : Int) (s : Nat) : (srcI ops r v == (s : Int)) = true ↔ srcIx ops r v = some s := by
  unfold srcI idxOf srcIx
  cases h : ops.findIdx? (isSrc r v) with
  | none => simp
  | some i => simp; omega
theorem certain_eq {ops : List S60} (hnd : ops.Pairwise (fun a b => a.f0 ≠ b.f0)) {w : Nat} (hw : w < ops.length) : certainB ops (opAt ops w) = survR ops w := by
  unfold certainB survR
  split
  · rfl
  · split
    · rfl
    · rw [Bool.eq_iff_iff]
      simp only [Bool.or_eq_true, List.any_eq_true]
      constructor
      · rintro (⟨o, ho, h⟩ | ⟨o, ho, h⟩)
        · obtain ⟨i, hi, rfl⟩ := mem_opAt ho
          split
          · rfl
          · refine List.any_eq_true.2 ⟨i, List.mem_range.2 hi, ?_⟩
            unfold rule1 at h
            unfold survAt
            simp only [Bool.and_eq_true] at h ⊢
            obtain ⟨h1, h2, h3, h4⟩ := h
            rw [h1, h2, h3, h4]
            simp
        · unfold rule2 at h
          rw [Bool.and_eq_true] at h
          obtain ⟨h1, h2⟩ := h
          split at h2
          · cases h2
          · rename_i s hsrc
            obtain ⟨hs1, hs2⟩ := src_lt hsrc
            simp only [Bool.and_eq_true, Bool.or_eq_true, beq_iff_eq] at h2
            obtain ⟨h3, h4, h5⟩ := h2
            have hsn : seenR ops s = true := List.any_eq_true.2 ⟨o, ho, by
              unfold seenB
              rw [h1, h4, (srcI_eq ops _ _ s).2 hsrc]; rfl⟩
            rcases h5 with h5 | h5
            · have : s = w := by
                rcases Nat.lt_trichotomy s w with hlt | rfl | hgt
                · exact absurd h5 (ids_ne hnd hlt hw)
                · rfl
                · exact absurd h5.symm (ids_ne hnd hgt hs1)
              subst this
              rw [if_pos hsn]
            · split
              · rfl
              · refine List.any_eq_true.2 ⟨s, List.mem_range.2 hs1, ?_⟩
                unfold survAt
                unfold isSrc at hs2
                rw [Bool.and_eq_true] at hs2
                rw [h3, h5, hsn, hs2.1]
                simp
      · intro h
        split at h
        · rename_i hsn
          obtain ⟨o, ho, h1⟩ := List.any_eq_true.1 hsn
          unfold seenB at h1
          simp only [Bool.and_eq_true] at h1
          obtain ⟨h1, h2, h3⟩ := h1
          refine .inr ⟨o, ho, ?_⟩
          unfold rule2
          rw [(srcI_eq ops _ _ w).1 h3]
          simp [h1]
          exact of_decide_eq_true h2
        · obtain ⟨i, hi, h1⟩ := List.any_eq_true.1 h
          have hi := List.mem_range.1 hi
          unfold survAt at h1
          simp only [Bool.and_eq_true, Bool.or_eq_true] at h1
          obtain ⟨h5, hp, hq⟩ := h1
          rcases hq with ⟨h4, h7⟩ | ⟨h3, hsn⟩
          · refine .inl ⟨opAt ops i, opAt_mem hi, ?_⟩
            unfold rule1
            rw [h4, h7, h5, hp]; rfl
          · obtain ⟨o, ho, h1⟩ := List.any_eq_true.1 hsn
            unfold seenB at h1
            simp only [Bool.and_eq_true] at h1
            obtain ⟨h1, h2, h6⟩ := h1
            refine .inr ⟨o, ho, ?_⟩
            unfold rule2
            rw [(srcI_eq ops _ _ i).1 h6]
            simp only
            rw [h1, h5, h2, hp]
            simp
theorem lookB_surv {ops : List S60} (hnd : ops.Pairwise (fun a b => a.f0 ≠ b.f0)) {i : Nat} (hi : i < ops.length) (h3 : (opAt ops i).f3 = true) : ∀ k, k ≤ ops.length → lookB (survP ops k) (opAt ops i).f0 = (decide (i < k) && certainB ops (opAt ops i))
  | 0, _ => by simp [survP, lookB]
  | k + 1, hk => by
    have ih := lookB_surv hnd hi h3 k (by omega)
    rw [survP]
    rcases Nat.lt_trichotomy i k with hlt | rfl | hgt
    · have hne : ((opAt ops k).f0 == (opAt ops i).f0) = false := by simpa using fun e => ids_ne hnd hlt (by omega) e.symm
      split
      · unfold lookB at ih ⊢
        rw [List.any_append, ih, List.any_cons, List.any_nil, hne, decide_eq_true hlt, decide_eq_true (show i < k + 1 by omega)]
        simp
      · rw [ih, decide_eq_true hlt, decide_eq_true (show i < k + 1 by omega)]
    · rw [if_pos h3]
      unfold lookB at ih ⊢
      rw [List.any_append, ih, List.any_cons, List.any_nil, beq_self_eq_true, decide_eq_false (Nat.lt_irrefl _), decide_eq_true (Nat.lt_succ_self _)]
      simp
    · have hne : ((opAt ops k).f0 == (opAt ops i).f0) = false := by simpa using ids_ne hnd hgt hi
      split
      · unfold lookB at ih ⊢
        rw [List.any_append, ih, List.any_cons, List.any_nil, hne, decide_eq_false (show ¬ i < k by omega), decide_eq_false (show ¬ i < k + 1 by omega)]
        simp
      · rw [ih, decide_eq_false (show ¬ i < k by omega), decide_eq_false (show ¬ i < k + 1 by omega)]
theorem surv_sv {ops : List S60} (hnd : ops.Pairwise (fun a b => a.f0 ≠ b.f0)) {i : Nat} (hi : i < ops.length) (h3 : (opAt ops i).f3 = true) : lookB (survP ops ops.length) (opAt ops i).f0 = survR ops i := by
  rw [lookB_surv hnd hi h3 _ (Nat.le_refl _), decide_eq_true hi, Bool.true_and, certain_eq hnd hi]
theorem ops_range (ops : List S60) : ops = (List.range ops.length).map (opAt ops) := by
  apply List.ext_getElem
  · simp
  · intro i h1 h2
    rw [List.getElem_map, List.getElem_range, opAt_get h1]
theorem filter_range {β : Type} (ops : List S60) (f : S60 → Option β) : ops.filterMap f = (List.range ops.length).filterMap (fun i => f (opAt ops i)) := by
  conv => lhs; rw [ops_range ops]
  rw [List.filterMap_map]; rfl
theorem range_congr {β : Type} {f g : Nat → Option β} : ∀ {n : Nat}, (∀ i, i < n → f i = g i) → (List.range n).filterMap f = (List.range n).filterMap g
  | 0, _ => rfl
  | n + 1, h => by
    rw [range_next, range_next, range_congr (fun i hi => h i (by omega)), h n (by omega)]
theorem survQ_eq (l : List S39) : survQ l = survivorsP l := by
  unfold survQ survivorsP
  rw [trace_eq]
  unfold beginP opsP
  cases hs : parseP l with
  | none => rfl
  | some s =>
    simp only
    cases hk : okW s.1 s.1.length with
    | false => rfl
    | true =>
      simp only [if_true, Option.isSome_some]
      have hnd := (ptake_inv l l.length hs).nodup
      rw [filter_range]
      congr 1
      apply range_congr
      intro i hi
      unfold survQf survOf
      cases h3 : (opAt s.1 i).f3 with
      | false => rfl
      | true => rw [surv_sv hnd hi h3]
end Go.Proofs.Ytidghmgaaenihaa.Q

/-! part Q8 -/
namespace Go.Proofs.Ytidghmgaaenihaa.Q
open Go.RowKit Go.Proofs.YtidghmgaaenihaaW.PrintWords Go.Proofs.YtidghmgaaenihaaW.PrintLast Go.Proofs.YtidghmgaaenihaaW.PrintMore
attribute [local go_sem] max2_int min2_int max_two min_two max_three min_three max_four min_four
set_option linter.unusedVariables false
set_option linter.unusedSimpArgs false

/-! ### tegulalaw47_DurableSurvivors: function 8 -/
mutual
def tegulalaw47_DurableSurvivors.j0 : Nat → List Int → List Int → Bool → Option (Bool)
  | 0, _, _, _ => none
  | k + 1, x3, x5, x39 => if x39 = true then (some false) else (tegulalaw47_DurableSurvivors.l0 k x3 x5 0)
def tegulalaw47_DurableSurvivors.l0 : Nat → List Int → List Int → Int → Option (Bool)
  | 0, _, _, _ => none
  | k + 1, x3, x5, x7 => if x7 < (x3.length : Int) then (if 0 ≤ x7 then (if x7 < (x5.length : Int) then (if (rd x3 x7) = (rd x5 x7) then (tegulalaw47_DurableSurvivors.l0 k x3 x5 (wrap64 (x7 + 1))) else (some false)) else (none)) else (none)) else (some true)
end
def tegulalaw47_DurableSurvivors.f (k : Nat) (l0 : List (S39)) : Option (Bool) := (tegulalaw47_awake.f).bind fun t334 => (if t334 = true then (if (l0.length : Int) > 60 then (some true) else ((durable_Survivors.f l0).bind fun bt335 => ((tegularef47_Survivors.f l0).bind fun bt339 => (if bt335.2 = bt339.2 then (if (bt335.1.length : Int) = (bt339.1.length : Int) then ((durable_Traceable.f l0).bind fun t343 => ((tegularef47_Traceable.f l0).bind fun t344 => (tegulalaw47_DurableSurvivors.j0 k bt335.1 bt339.1 (t343 != t344)))) else (tegulalaw47_DurableSurvivors.j0 k bt335.1 bt339.1 true)) else (tegulalaw47_DurableSurvivors.j0 k bt335.1 bt339.1 true))))) else (some false))
theorem tegulalaw47_DurableSurvivors.mono_l : ∀ k, (∀ y0 y1 y2, LeO (tegulalaw47_DurableSurvivors.j0 k y0 y1 y2) (tegulalaw47_DurableSurvivors.j0 (k + 1) y0 y1 y2)) ∧ (∀ y0 y1 y2, LeO (tegulalaw47_DurableSurvivors.l0 k y0 y1 y2) (tegulalaw47_DurableSurvivors.l0 (k + 1) y0 y1 y2))
  | 0 => ⟨fun _ _ _ r h => by simp [tegulalaw47_DurableSurvivors.j0] at h, fun _ _ _ r h => by simp [tegulalaw47_DurableSurvivors.l0] at h⟩
  | k + 1 => by
    obtain ⟨ih0, ih1⟩ := tegulalaw47_DurableSurvivors.mono_l k
    refine ⟨?_, ?_⟩
    · intro y0 y1 y2
      unfold tegulalaw47_DurableSurvivors.j0
      repeat' first
      | (with_reducible exact ih0 _ _ _)
      | (with_reducible exact ih1 _ _ _)
      | (with_reducible exact LeO.refl _)
      | (with_reducible exact LeO.none _)
      | (with_reducible refine LeO.ite ?_ ?_)
      | (with_reducible refine LeO.bind ?_ (fun _ => ?_))
      | exact ih0 _ _ _
      | exact ih1 _ _ _
      | exact LeO.none _
      | refine LeO.ite ?_ ?_
      | refine LeO.bind ?_ (fun _ => ?_)
    · intro y0 y1 y2
      unfold tegulalaw47_DurableSurvivors.l0
      repeat' first
      | (with_reducible exact ih0 _ _ _)
      | (with_reducible exact ih1 _ _ _)
      | (with_reducible exact LeO.refl _)
      | (with_reducible exact LeO.none _)
      | (with_reducible refine LeO.ite ?_ ?_)
      | (with_reducible refine LeO.bind ?_ (fun _ => ?_))
      | exact ih0 _ _ _
      | exact ih1 _ _ _
      | exact LeO.none _
      | refine LeO.ite ?_ ?_
      | refine LeO.bind ?_ (fun _ => ?_)
theorem tegulalaw47_DurableSurvivors.mono : ∀ a0 k, LeO (tegulalaw47_DurableSurvivors.f k a0) (tegulalaw47_DurableSurvivors.f (k + 1) a0) := by
  intro a0 k
  obtain ⟨ih0, ih1⟩ := tegulalaw47_DurableSurvivors.mono_l k
  unfold tegulalaw47_DurableSurvivors.f
  repeat' first
      | (with_reducible exact ih0 _ _ _)
      | (with_reducible exact ih1 _ _ _)
      | (with_reducible exact LeO.refl _)
      | (with_reducible exact LeO.none _)
      | (with_reducible refine LeO.ite ?_ ?_)
      | (with_reducible refine LeO.bind ?_ (fun _ => ?_))
      | exact ih0 _ _ _
      | exact ih1 _ _ _
      | exact LeO.none _
      | refine LeO.ite ?_ ?_
      | refine LeO.bind ?_ (fun _ => ?_)
set_option maxHeartbeats 8000000 in
set_option maxRecDepth 100000 in
theorem tegulalaw47_DurableSurvivors.calls (k : Nat) (A0 : Option Addr) (c0 : Nat) (l0 : List (S39)) (r : Bool) (w : World) (hr0 : Kd.C k39 w A0 l0.length l0) (hc0 : l0.length ≤ c0) (h : tegulalaw47_DurableSurvivors.f k l0 = some r) :
    Calls Try.prog 8 #[.slice A0 l0.length c0] w fun e w' => e = .returned (.bool r) ∧ Below w.heap.size w w' := by
  have HR0 := Aside0.mk hr0
  have HC0 := Aside0.mk hc0
  clear hr0 hc0
  have HB := Aside0.mk (Below.refl w.heap.size w)
  have H : ((tegulalaw47_awake.f).bind fun t334 => (if t334 = true then (if (l0.length : Int) > 60 then (some true) else ((durable_Survivors.f l0).bind fun bt335 => ((tegularef47_Survivors.f l0).bind fun bt339 => (if bt335.2 = bt339.2 then (if (bt335.1.length : Int) = (bt339.1.length : Int) then ((durable_Traceable.f l0).bind fun t343 => ((tegularef47_Traceable.f l0).bind fun t344 => (tegulalaw47_DurableSurvivors.j0 k bt335.1 bt339.1 (t343 != t344)))) else (tegulalaw47_DurableSurvivors.j0 k bt335.1 bt339.1 true)) else (tegulalaw47_DurableSurvivors.j0 k bt335.1 bt339.1 true))))) else (some false))) = some r := h
  clear h
  replace H := Option.bind_eq_some_iff.mp H
  obtain ⟨t334, A20, H⟩ := H
  replace H : (if t334 = true then (if (l0.length : Int) > 60 then (some true) else ((durable_Survivors.f l0).bind fun bt335 => ((tegularef47_Survivors.f l0).bind fun bt339 => (if bt335.2 = bt339.2 then (if (bt335.1.length : Int) = (bt339.1.length : Int) then ((durable_Traceable.f l0).bind fun t343 => ((tegularef47_Traceable.f l0).bind fun t344 => (tegulalaw47_DurableSurvivors.j0 k bt335.1 bt339.1 (t343 != t344)))) else (tegulalaw47_DurableSurvivors.j0 k bt335.1 bt339.1 true)) else (tegulalaw47_DurableSurvivors.j0 k bt335.1 bt339.1 true))))) else (some false)) = some r := H
  have A2 := Aside0.mk A20
  clear A20
  by_cases c3 : t334 = true
  · subst c3
    have H1 : (if (l0.length : Int) > 60 then (some true) else ((durable_Survivors.f l0).bind fun bt335 => ((tegularef47_Survivors.f l0).bind fun bt339 => (if bt335.2 = bt339.2 then (if (bt335.1.length : Int) = (bt339.1.length : Int) then ((durable_Traceable.f l0).bind fun t343 => ((tegularef47_Traceable.f l0).bind fun t344 => (tegulalaw47_DurableSurvivors.j0 k bt335.1 bt339.1 (t343 != t344)))) else (tegulalaw47_DurableSurvivors.j0 k bt335.1 bt339.1 true)) else (tegulalaw47_DurableSurvivors.j0 k bt335.1 bt339.1 true))))) = some r := by rw [if_pos rfl] at H; exact H
    clear H
    have H := H1
    clear H1
    by_cases c4 : (l0.length : Int) > 60
    · rw [if_pos c4] at H
      have c4b0 : decide (60 < (l0.length : Int)) = true := decide_eq_true c4
      have c4b1 : decide (60 < l0.length) = true := decide_eq_true (by omega)
      clear c4
      obtain rfl := Option.some.inj H
      go_enter Try.func8, Try.ntmps8
      go_wp2_with (first | (go_at_call 19; (with_reducible refine (tegulalaw47_awake.calls  true _ A2.out).mono ?_); rintro e w5 ⟨rfl, hb⟩; have n0_ := Aside0.mk (below_step (by repeat (first | (with_reducible first | exact HB.out | apply below_alloc | apply pw_below_drewN | apply below_drew1) | exact HB.out)) hb); clear HB; have HB := n0_; clear n0_; (try clear hb); (try clear hb2); (try clear hk); (try clear hi)))
      repeat (go_quiet (first | (go_at_call 19; (with_reducible refine (tegulalaw47_awake.calls  true _ A2.out).mono ?_); rintro e w5 ⟨rfl, hb⟩; have n0_ := Aside0.mk (below_step (by repeat (first | (with_reducible first | exact HB.out | apply below_alloc | apply pw_below_drewN | apply below_drew1) | exact HB.out)) hb); clear HB; have HB := n0_; clear n0_; (try clear hb); (try clear hb2); (try clear hk); (try clear hi))); try go_wp2_with (first | (go_at_call 19; (with_reducible refine (tegulalaw47_awake.calls  true _ A2.out).mono ?_); rintro e w5 ⟨rfl, hb⟩; have n0_ := Aside0.mk (below_step (by repeat (first | (with_reducible first | exact HB.out | apply below_alloc | apply pw_below_drewN | apply below_drew1) | exact HB.out)) hb); clear HB; have HB := n0_; clear n0_; (try clear hb); (try clear hb2); (try clear hk); (try clear hi))))
      go_ret
      exact ⟨by first | rfl | (simp [errW_none, errW_some] <;> rfl) | (simp [*, errW_none, errW_some] <;> rfl), by repeat (first | (with_reducible first | exact HB.out | apply below_alloc | apply pw_below_drewN | apply below_drew1) | exact HB.out)⟩
    · rw [if_neg c4] at H
      have c4b0 : decide (60 < (l0.length : Int)) = false := decide_eq_false c4
      have c4b1 : decide (60 < l0.length) = false := decide_eq_false (by omega)
      clear c4
      replace H := Option.bind_eq_some_iff.mp H
      obtain ⟨⟨t335, t336⟩, A60, H⟩ := H
      replace H : ((tegularef47_Survivors.f l0).bind fun bt339 => (if t336 = bt339.2 then (if (t335.length : Int) = (bt339.1.length : Int) then ((durable_Traceable.f l0).bind fun t343 => ((tegularef47_Traceable.f l0).bind fun t344 => (tegulalaw47_DurableSurvivors.j0 k t335 bt339.1 (t343 != t344)))) else (tegulalaw47_DurableSurvivors.j0 k t335 bt339.1 true)) else (tegulalaw47_DurableSurvivors.j0 k t335 bt339.1 true))) = some r := H
      have A6 := Aside0.mk A60
      clear A60
      replace H := Option.bind_eq_some_iff.mp H
      obtain ⟨⟨t339, t340⟩, A70, H⟩ := H
      replace H : (if t336 = t340 then (if (t335.length : Int) = (t339.length : Int) then ((durable_Traceable.f l0).bind fun t343 => ((tegularef47_Traceable.f l0).bind fun t344 => (tegulalaw47_DurableSurvivors.j0 k t335 t339 (t343 != t344)))) else (tegulalaw47_DurableSurvivors.j0 k t335 t339 true)) else (tegulalaw47_DurableSurvivors.j0 k t335 t339 true)) = some r := H
      have A7 := Aside0.mk A70
      clear A70
      have HC8 := Aside0.mk H
      clear H
      go_enter Try.func8, Try.ntmps8
      go_upto_region 7 with (first | (go_at_call 19; (with_reducible refine (tegulalaw47_awake.calls  true _ A2.out).mono ?_); rintro e w9 ⟨rfl, hb⟩; have n0_ := Aside0.mk (below_step (by repeat (first | (with_reducible first | exact HB.out | apply below_alloc | apply pw_below_drewN | apply below_drew1) | exact HB.out)) hb); clear HB; have HB := n0_; clear n0_; (try clear hb); (try clear hb2); (try clear hk); (try clear hi)) | (go_at_call 25; (with_reducible refine (durable_Survivors.calls _ _ l0 t335 t336 _ ?side1 ?side2 A6.out).mono ?_); (case side1 => repeat (first | exact (Kd.C_below HR0.out HB.out) | (with_reducible refine Kd.C_alloc ?_ _) | (with_reducible refine Kd.C_drewN ?_ _) | (with_reducible refine Kd.C_drew ?_))); (case side2 => exact HC0.out); rintro e w10 ⟨v337, rfl, ho0, hb⟩; have n0_ := Aside0.mk (Kd.R_lower ho0 (below_size (by repeat (first | (with_reducible first | exact HB.out | apply below_alloc | apply pw_below_drewN | apply below_drew1) | exact HB.out)))); have n1_ := Aside0.mk (below_step (by repeat (first | (with_reducible first | exact HB.out | apply below_alloc | apply pw_below_drewN | apply below_drew1) | exact HB.out)) hb); clear HB; have HO338 := n0_; have HB := n1_; clear n0_ n1_; (try clear hb); (try clear hb2); (try clear hk); (try clear hi); (try clear ho0)) | (go_at_call 28; (with_reducible refine (tegularef47_Survivors.calls _ _ l0 t339 t340 _ ?side1 ?side2 A7.out).mono ?_); (case side1 => repeat (first | exact (Kd.C_below HR0.out HB.out) | (with_reducible refine Kd.C_alloc ?_ _) | (with_reducible refine Kd.C_drewN ?_ _) | (with_reducible refine Kd.C_drew ?_))); (case side2 => exact HC0.out); rintro e w11 ⟨v341, rfl, ho0, hb⟩; have n0_ := Aside0.mk (Kd.R_elder' (by (with_reducible repeat (first | apply Kd.R_alloc | apply Kd.R_drewN | apply Kd.R_drew)); exact HO338.out) (Kd.R_base ho0) hb); have n1_ := Aside0.mk (Kd.R_lower (Kd.R_new' ho0 (Kd.R_lt (by (with_reducible repeat (first | apply Kd.R_alloc | apply Kd.R_drewN | apply Kd.R_drew)); exact HO338.out))) (below_size (by repeat (first | (with_reducible first | exact HB.out | apply below_alloc | apply pw_below_drewN | apply below_drew1) | exact HB.out)))); have n2_ := Aside0.mk (below_step (by repeat (first | (with_reducible first | exact HB.out | apply below_alloc | apply pw_below_drewN | apply below_drew1) | exact HB.out)) hb); clear HO338; clear HB; have HO338 := n0_; have HO342 := n1_; have HB := n2_; clear n0_ n1_ n2_; (try clear hb); (try clear hb2); (try clear hk); (try clear hi); (try clear ho0)))
      repeat (go_quiet (first | (go_at_call 19; (with_reducible refine (tegulalaw47_awake.calls  true _ A2.out).mono ?_); rintro e w9 ⟨rfl, hb⟩; have n0_ := Aside0.mk (below_step (by repeat (first | (with_reducible first | exact HB.out | apply below_alloc | apply pw_below_drewN | apply below_drew1) | exact HB.out)) hb); clear HB; have HB := n0_; clear n0_; (try clear hb); (try clear hb2); (try clear hk); (try clear hi)) | (go_at_call 25; (with_reducible refine (durable_Survivors.calls _ _ l0 t335 t336 _ ?side1 ?side2 A6.out).mono ?_); (case side1 => repeat (first | exact (Kd.C_below HR0.out HB.out) | (with_reducible refine Kd.C_alloc ?_ _) | (with_reducible refine Kd.C_drewN ?_ _) | (with_reducible refine Kd.C_drew ?_))); (case side2 => exact HC0.out); rintro e w10 ⟨v337, rfl, ho0, hb⟩; have n0_ := Aside0.mk (Kd.R_lower ho0 (below_size (by repeat (first | (with_reducible first | exact HB.out | apply below_alloc | apply pw_below_drewN | apply below_drew1) | exact HB.out)))); have n1_ := Aside0.mk (below_step (by repeat (first | (with_reducible first | exact HB.out | apply below_alloc | apply pw_below_drewN | apply below_drew1) | exact HB.out)) hb); clear HB; have HO338 := n0_; have HB := n1_; clear n0_ n1_; (try clear hb); (try clear hb2); (try clear hk); (try clear hi); (try clear ho0)) | (go_at_call 28; (with_reducible refine (tegularef47_Survivors.calls _ _ l0 t339 t340 _ ?side1 ?side2 A7.out).mono ?_); (case side1 => repeat (first | exact (Kd.C_below HR0.out HB.out) | (with_reducible refine Kd.C_alloc ?_ _) | (with_reducible refine Kd.C_drewN ?_ _) | (with_reducible refine Kd.C_drew ?_))); (case side2 => exact HC0.out); rintro e w11 ⟨v341, rfl, ho0, hb⟩; have n0_ := Aside0.mk (Kd.R_elder' (by (with_reducible repeat (first | apply Kd.R_alloc | apply Kd.R_drewN | apply Kd.R_drew)); exact HO338.out) (Kd.R_base ho0) hb); have n1_ := Aside0.mk (Kd.R_lower (Kd.R_new' ho0 (Kd.R_lt (by (with_reducible repeat (first | apply Kd.R_alloc | apply Kd.R_drewN | apply Kd.R_drew)); exact HO338.out))) (below_size (by repeat (first | (with_reducible first | exact HB.out | apply below_alloc | apply pw_below_drewN | apply below_drew1) | exact HB.out)))); have n2_ := Aside0.mk (below_step (by repeat (first | (with_reducible first | exact HB.out | apply below_alloc | apply pw_below_drewN | apply below_drew1) | exact HB.out)) hb); clear HO338; clear HB; have HO338 := n0_; have HO342 := n1_; have HB := n2_; clear n0_ n1_ n2_; (try clear hb); (try clear hb2); (try clear hk); (try clear hi); (try clear ho0))); go_upto_region 7 with (first | (go_at_call 19; (with_reducible refine (tegulalaw47_awake.calls  true _ A2.out).mono ?_); rintro e w9 ⟨rfl, hb⟩; have n0_ := Aside0.mk (below_step (by repeat (first | (with_reducible first | exact HB.out | apply below_alloc | apply pw_below_drewN | apply below_drew1) | exact HB.out)) hb); clear HB; have HB := n0_; clear n0_; (try clear hb); (try clear hb2); (try clear hk); (try clear hi)) | (go_at_call 25; (with_reducible refine (durable_Survivors.calls _ _ l0 t335 t336 _ ?side1 ?side2 A6.out).mono ?_); (case side1 => repeat (first | exact (Kd.C_below HR0.out HB.out) | (with_reducible refine Kd.C_alloc ?_ _) | (with_reducible refine Kd.C_drewN ?_ _) | (with_reducible refine Kd.C_drew ?_))); (case side2 => exact HC0.out); rintro e w10 ⟨v337, rfl, ho0, hb⟩; have n0_ := Aside0.mk (Kd.R_lower ho0 (below_size (by repeat (first | (with_reducible first | exact HB.out | apply below_alloc | apply pw_below_drewN | apply below_drew1) | exact HB.out)))); have n1_ := Aside0.mk (below_step (by repeat (first | (with_reducible first | exact HB.out | apply below_alloc | apply pw_below_drewN | apply below_drew1) | exact HB.out)) hb); clear HB; have HO338 := n0_; have HB := n1_; clear n0_ n1_; (try clear hb); (try clear hb2); (try clear hk); (try clear hi); (try clear ho0)) | (go_at_call 28; (with_reducible refine (tegularef47_Survivors.calls _ _ l0 t339 t340 _ ?side1 ?side2 A7.out).mono ?_); (case side1 => repeat (first | exact (Kd.C_below HR0.out HB.out) | (with_reducible refine Kd.C_alloc ?_ _) | (with_reducible refine Kd.C_drewN ?_ _) | (with_reducible refine Kd.C_drew ?_))); (case side2 => exact HC0.out); rintro e w11 ⟨v341, rfl, ho0, hb⟩; have n0_ := Aside0.mk (Kd.R_elder' (by (with_reducible repeat (first | apply Kd.R_alloc | apply Kd.R_drewN | apply Kd.R_drew)); exact HO338.out) (Kd.R_base ho0) hb); have n1_ := Aside0.mk (Kd.R_lower (Kd.R_new' ho0 (Kd.R_lt (by (with_reducible repeat (first | apply Kd.R_alloc | apply Kd.R_drewN | apply Kd.R_drew)); exact HO338.out))) (below_size (by repeat (first | (with_reducible first | exact HB.out | apply below_alloc | apply pw_below_drewN | apply below_drew1) | exact HB.out)))); have n2_ := Aside0.mk (below_step (by repeat (first | (with_reducible first | exact HB.out | apply below_alloc | apply pw_below_drewN | apply below_drew1) | exact HB.out)) hb); clear HO338; clear HB; have HO338 := n0_; have HO342 := n1_; have HB := n2_; clear n0_ n1_ n2_; (try clear hb); (try clear hb2); (try clear hk); (try clear hi); (try clear ho0))))
      (try simp only [Act.put, List.setIfInBounds_toArray, List.set_cons_zero, List.set_cons_succ])
      go_cut [39] (fun v39 wc => ∃ (kq : Nat) (x39_7 : Bool), v39 = .bool x39_7 ∧ Aside0 (tegulalaw47_DurableSurvivors.j0 kq t335 t339 x39_7 = some r) ∧ Aside0 (kq ≤ k) ∧ Aside0 (Kd.R (Kd.int .i64) 3 wc w.heap.size (fun k_ => some k_ ≠ (v341 : Value).ownBlock) v337 t335) ∧ Aside0 (Kd.R (Kd.int .i64) 3 wc w.heap.size (fun k_ => some k_ ≠ (v337 : Value).ownBlock) v341 t339) ∧ Aside0 (Below w.heap.size w wc))
      case first =>
        have H := HC8.out
        clear HC8
        by_cases c12 : t336 = t340
        · rw [if_pos c12] at H
          have c12b0 : (t336 == t340) = true := beq_iff_eq.mpr c12
          have c12b1 : (t336 != t340) = false := bne_eq_false_iff_eq.mpr c12
          clear c12
          (first | rw [c12b0] | (simp only [i64_w, i32_w]; rw [c12b0]) | skip)
          by_cases c13 : (t335.length : Int) = (t339.length : Int)
          · rw [if_pos c13] at H
            have c13b0 : ((t335.length : Int) == (t339.length : Int)) = true := beq_iff_eq.mpr c13
            have c13b1 : ((t335.length : Int) != (t339.length : Int)) = false := bne_eq_false_iff_eq.mpr c13
            have c13b2 : (t335.length == t339.length) = true := by first | simpa using c13 | (simp at c13 ⊢; omega)
            clear c13
            replace H := Option.bind_eq_some_iff.mp H
            obtain ⟨t343, A140, H⟩ := H
            replace H : ((tegularef47_Traceable.f l0).bind fun t344 => (tegulalaw47_DurableSurvivors.j0 k t335 t339 (t343 != t344))) = some r := H
            have A14 := Aside0.mk A140
            clear A140
            replace H := Option.bind_eq_some_iff.mp H
            obtain ⟨t344, A150, H⟩ := H
            replace H : (tegulalaw47_DurableSurvivors.j0 k t335 t339 (t343 != t344)) = some r := H
            have A15 := Aside0.mk A150
            clear A150
            have H' := Aside0.mk H
            clear H
            obtain ⟨Ao16, co16, eo16⟩ := Kd.R_slice HO338.out
            subst eo16
            obtain ⟨Ao17, co17, eo17⟩ := Kd.R_slice HO342.out
            subst eo17
            go_wp2_with (first | (go_at_call 29; (with_reducible refine (durable_Traceable.calls _ _ l0 t343 _ ?side1 ?side2 A14.out).mono ?_); (case side1 => repeat (first | exact (Kd.C_below HR0.out HB.out) | (with_reducible refine Kd.C_alloc ?_ _) | (with_reducible refine Kd.C_drewN ?_ _) | (with_reducible refine Kd.C_drew ?_))); (case side2 => exact HC0.out); rintro e w18 ⟨rfl, hb⟩; have n0_ := Aside0.mk (Kd.R_below (by (with_reducible repeat (first | apply Kd.R_alloc | apply Kd.R_drewN | apply Kd.R_drew)); exact HO338.out) hb); have n1_ := Aside0.mk (Kd.R_below (by (with_reducible repeat (first | apply Kd.R_alloc | apply Kd.R_drewN | apply Kd.R_drew)); exact HO342.out) hb); have n2_ := Aside0.mk (below_step (by repeat (first | (with_reducible first | exact HB.out | apply below_alloc | apply pw_below_drewN | apply below_drew1) | exact HB.out)) hb); clear HO338; clear HO342; clear HB; have HO338 := n0_; have HO342 := n1_; have HB := n2_; clear n0_ n1_ n2_; (try clear hb); (try clear hb2); (try clear hk); (try clear hi)) | (go_at_call 30; (with_reducible refine (tegularef47_Traceable.calls _ _ l0 t344 _ ?side1 ?side2 A15.out).mono ?_); (case side1 => repeat (first | exact (Kd.C_below HR0.out HB.out) | (with_reducible refine Kd.C_alloc ?_ _) | (with_reducible refine Kd.C_drewN ?_ _) | (with_reducible refine Kd.C_drew ?_))); (case side2 => exact HC0.out); rintro e w19 ⟨rfl, hb⟩; have n0_ := Aside0.mk (Kd.R_below (by (with_reducible repeat (first | apply Kd.R_alloc | apply Kd.R_drewN | apply Kd.R_drew)); exact HO338.out) hb); have n1_ := Aside0.mk (Kd.R_below (by (with_reducible repeat (first | apply Kd.R_alloc | apply Kd.R_drewN | apply Kd.R_drew)); exact HO342.out) hb); have n2_ := Aside0.mk (below_step (by repeat (first | (with_reducible first | exact HB.out | apply below_alloc | apply pw_below_drewN | apply below_drew1) | exact HB.out)) hb); clear HO338; clear HO342; clear HB; have HO338 := n0_; have HO342 := n1_; have HB := n2_; clear n0_ n1_ n2_; (try clear hb); (try clear hb2); (try clear hk); (try clear hi)))
            repeat (go_quiet (first | (go_at_call 29; (with_reducible refine (durable_Traceable.calls _ _ l0 t343 _ ?side1 ?side2 A14.out).mono ?_); (case side1 => repeat (first | exact (Kd.C_below HR0.out HB.out) | (with_reducible refine Kd.C_alloc ?_ _) | (with_reducible refine Kd.C_drewN ?_ _) | (with_reducible refine Kd.C_drew ?_))); (case side2 => exact HC0.out); rintro e w18 ⟨rfl, hb⟩; have n0_ := Aside0.mk (Kd.R_below (by (with_reducible repeat (first | apply Kd.R_alloc | apply Kd.R_drewN | apply Kd.R_drew)); exact HO338.out) hb); have n1_ := Aside0.mk (Kd.R_below (by (with_reducible repeat (first | apply Kd.R_alloc | apply Kd.R_drewN | apply Kd.R_drew)); exact HO342.out) hb); have n2_ := Aside0.mk (below_step (by repeat (first | (with_reducible first | exact HB.out | apply below_alloc | apply pw_below_drewN | apply below_drew1) | exact HB.out)) hb); clear HO338; clear HO342; clear HB; have HO338 := n0_; have HO342 := n1_; have HB := n2_; clear n0_ n1_ n2_; (try clear hb); (try clear hb2); (try clear hk); (try clear hi)) | (go_at_call 30; (with_reducible refine (tegularef47_Traceable.calls _ _ l0 t344 _ ?side1 ?side2 A15.out).mono ?_); (case side1 => repeat (first | exact (Kd.C_below HR0.out HB.out) | (with_reducible refine Kd.C_alloc ?_ _) | (with_reducible refine Kd.C_drewN ?_ _) | (with_reducible refine Kd.C_drew ?_))); (case side2 => exact HC0.out); rintro e w19 ⟨rfl, hb⟩; have n0_ := Aside0.mk (Kd.R_below (by (with_reducible repeat (first | apply Kd.R_alloc | apply Kd.R_drewN | apply Kd.R_drew)); exact HO338.out) hb); have n1_ := Aside0.mk (Kd.R_below (by (with_reducible repeat (first | apply Kd.R_alloc | apply Kd.R_drewN | apply Kd.R_drew)); exact HO342.out) hb); have n2_ := Aside0.mk (below_step (by repeat (first | (with_reducible first | exact HB.out | apply below_alloc | apply pw_below_drewN | apply below_drew1) | exact HB.out)) hb); clear HO338; clear HO342; clear HB; have HO338 := n0_; have HO342 := n1_; have HB := n2_; clear n0_ n1_ n2_; (try clear hb); (try clear hb2); (try clear hk); (try clear hi))); try go_wp2_with (first | (go_at_call 29; (with_reducible refine (durable_Traceable.calls _ _ l0 t343 _ ?side1 ?side2 A14.out).mono ?_); (case side1 => repeat (first | exact (Kd.C_below HR0.out HB.out) | (with_reducible refine Kd.C_alloc ?_ _) | (with_reducible refine Kd.C_drewN ?_ _) | (with_reducible refine Kd.C_drew ?_))); (case side2 => exact HC0.out); rintro e w18 ⟨rfl, hb⟩; have n0_ := Aside0.mk (Kd.R_below (by (with_reducible repeat (first | apply Kd.R_alloc | apply Kd.R_drewN | apply Kd.R_drew)); exact HO338.out) hb); have n1_ := Aside0.mk (Kd.R_below (by (with_reducible repeat (first | apply Kd.R_alloc | apply Kd.R_drewN | apply Kd.R_drew)); exact HO342.out) hb); have n2_ := Aside0.mk (below_step (by repeat (first | (with_reducible first | exact HB.out | apply below_alloc | apply pw_below_drewN | apply below_drew1) | exact HB.out)) hb); clear HO338; clear HO342; clear HB; have HO338 := n0_; have HO342 := n1_; have HB := n2_; clear n0_ n1_ n2_; (try clear hb); (try clear hb2); (try clear hk); (try clear hi)) | (go_at_call 30; (with_reducible refine (tegularef47_Traceable.calls _ _ l0 t344 _ ?side1 ?side2 A15.out).mono ?_); (case side1 => repeat (first | exact (Kd.C_below HR0.out HB.out) | (with_reducible refine Kd.C_alloc ?_ _) | (with_reducible refine Kd.C_drewN ?_ _) | (with_reducible refine Kd.C_drew ?_))); (case side2 => exact HC0.out); rintro e w19 ⟨rfl, hb⟩; have n0_ := Aside0.mk (Kd.R_below (by (with_reducible repeat (first | apply Kd.R_alloc | apply Kd.R_drewN | apply Kd.R_drew)); exact HO338.out) hb); have n1_ := Aside0.mk (Kd.R_below (by (with_reducible repeat (first | apply Kd.R_alloc | apply Kd.R_drewN | apply Kd.R_drew)); exact HO342.out) hb); have n2_ := Aside0.mk (below_step (by repeat (first | (with_reducible first | exact HB.out | apply below_alloc | apply pw_below_drewN | apply below_drew1) | exact HB.out)) hb); clear HO338; clear HO342; clear HB; have HO338 := n0_; have HO342 := n1_; have HB := n2_; clear n0_ n1_ n2_; (try clear hb); (try clear hb2); (try clear hk); (try clear hi))))
            go_meet
            case rel => exact ⟨_, ((t343 != t344)), (by first | rfl | (simp; done) | (simp [*]; done)), H', ⟨by first | omega | exact Nat.le_refl _⟩, ⟨by (with_reducible repeat (first | apply Kd.R_alloc | apply Kd.R_drewN | apply Kd.R_drew)); exact Kd.R_mono HO338.out (fun _ hk => hk.2)⟩, ⟨by (with_reducible repeat (first | apply Kd.R_alloc | apply Kd.R_drewN | apply Kd.R_drew)); exact Kd.R_mono HO342.out (fun _ hk => hk.2)⟩, ⟨by repeat (first | (with_reducible first | exact HB.out | apply below_alloc | apply pw_below_drewN | apply below_drew1) | exact HB.out)⟩⟩
          · rw [if_neg c13] at H
            have c13b0 : ((t335.length : Int) == (t339.length : Int)) = false := beq_eq_false_iff_ne.mpr c13
            have c13b1 : ((t335.length : Int) != (t339.length : Int)) = true := bne_iff_ne.mpr c13
            have c13b2 : (t335.length == t339.length) = false := by first | simpa using c13 | (simp at c13 ⊢; omega)
            have H' := Aside0.mk H
            clear H
            obtain ⟨Ao20, co20, eo20⟩ := Kd.R_slice HO338.out
            subst eo20
            obtain ⟨Ao21, co21, eo21⟩ := Kd.R_slice HO342.out
            subst eo21
            go_wp2
            repeat (go_quiet (fail); try go_wp2)
            go_meet
            case rel => exact ⟨_, (true), (by first | rfl | (simp; done) | (simp [*]; done)), H', ⟨by first | omega | exact Nat.le_refl _⟩, ⟨by (with_reducible repeat (first | apply Kd.R_alloc | apply Kd.R_drewN | apply Kd.R_drew)); exact Kd.R_mono HO338.out (fun _ hk => hk.2)⟩, ⟨by (with_reducible repeat (first | apply Kd.R_alloc | apply Kd.R_drewN | apply Kd.R_drew)); exact Kd.R_mono HO342.out (fun _ hk => hk.2)⟩, ⟨by repeat (first | (with_reducible first | exact HB.out | apply below_alloc | apply pw_below_drewN | apply below_drew1) | exact HB.out)⟩⟩
        · rw [if_neg c12] at H
          have c12b0 : (t336 == t340) = false := beq_eq_false_iff_ne.mpr c12
          have c12b1 : (t336 != t340) = true := bne_iff_ne.mpr c12
          (first | rw [c12b0] | (simp only [i64_w, i32_w]; rw [c12b0]) | skip)
          have H' := Aside0.mk H
          clear H
          go_wp2
          repeat (go_quiet (fail); try go_wp2)
          go_meet
          case rel => exact ⟨_, (true), (by first | rfl | (simp; done) | (simp [*]; done)), H', ⟨by first | omega | exact Nat.le_refl _⟩, ⟨by (with_reducible repeat (first | apply Kd.R_alloc | apply Kd.R_drewN | apply Kd.R_drew)); exact Kd.R_mono HO338.out (fun _ hk => hk.2)⟩, ⟨by (with_reducible repeat (first | apply Kd.R_alloc | apply Kd.R_drewN | apply Kd.R_drew)); exact Kd.R_mono HO342.out (fun _ hk => hk.2)⟩, ⟨by repeat (first | (with_reducible first | exact HB.out | apply below_alloc | apply pw_below_drewN | apply below_drew1) | exact HB.out)⟩⟩
      case rest =>
        clear HC8
        try clear c1
        try clear p2
        try clear c3
        try clear c4
        try clear c4b0
        try clear c4b1
        try clear c8
        try clear c12
        try clear c12b0
        try clear c12b1
        try clear c13
        try clear c13b0
        try clear c13b1
        try clear c13b2
        obtain ⟨kq, x39_7, rfl, HA, HJ7, HO_3, HO_5, HB⟩ := hcut
        cases kq with
        | zero => exact absurd HA.out (by simp [tegulalaw47_DurableSurvivors.j0])
        | succ kj7 =>
          have H := HA.out
          clear HA
          simp only [tegulalaw47_DurableSurvivors.j0] at H
          by_cases c22 : x39_7 = true
          · subst c22
            have H1 : (some false) = some r := by rw [if_pos rfl] at H; exact H
            clear H
            have H := H1
            clear H1
            obtain rfl := Option.some.inj H
            go_wp2
            repeat (go_quiet (fail); try go_wp2)
            go_ret
            exact ⟨by first | rfl | (simp [errW_none, errW_some] <;> rfl) | (simp [*, errW_none, errW_some] <;> rfl), by repeat (first | (with_reducible first | exact HB.out | apply below_alloc | apply pw_below_drewN | apply below_drew1) | exact HB.out)⟩
          · replace c22 := Bool.eq_false_iff.mpr c22
            subst c22
            have H1 : (tegulalaw47_DurableSurvivors.l0 kj7 t335 t339 0) = some r := by rw [if_neg (show ¬ (false = true) by decide)] at H; exact H
            clear H
            have H := H1
            clear H1
            have H' := Aside0.mk H
            clear H
            go_wp2
            repeat (go_quiet (fail); try go_wp2)
            go_loopg [7] kj7 (fun kq v7 w' => ∃ (x7_2 : Int), v7 = .int .i64 x7_2 ∧ Aside0 (tegulalaw47_DurableSurvivors.l0 kq t335 t339 x7_2 = some r) ∧ Aside0 (kq ≤ kj7) ∧ Aside0 (Kd.R (Kd.int .i64) 3 w' w.heap.size (fun k_ => some k_ ≠ (v341 : Value).ownBlock) v337 t335) ∧ Aside0 (Kd.R (Kd.int .i64) 3 w' w.heap.size (fun k_ => some k_ ≠ (v337 : Value).ownBlock) v341 t339) ∧ Aside0 (Below w.heap.size w w'))
            case atStart => exact ⟨(0), (by first | rfl | (simp; done) | (simp [*]; done)), H', ⟨Nat.le_refl _⟩, ⟨by (with_reducible repeat (first | apply Kd.R_alloc | apply Kd.R_drewN | apply Kd.R_drew)); exact HO_3.out⟩, ⟨by (with_reducible repeat (first | apply Kd.R_alloc | apply Kd.R_drewN | apply Kd.R_drew)); exact HO_5.out⟩, ⟨by repeat (first | (with_reducible first | exact HB.out | apply below_alloc | apply pw_below_drewN | apply below_drew1) | exact HB.out)⟩⟩
            case round =>
              clear H'
              try clear c1
              try clear c2
              try clear p2
              try clear c3
              try clear c4
              try clear c4b0
              try clear c4b1
              try clear c8
              try clear c12
              try clear c12b0
              try clear c12b1
              try clear c13
              try clear c13b0
              try clear c13b1
              try clear c13b2
              try clear c22
              try clear p2
              obtain ⟨x7_2, rfl, HA, HK2, HO_3, HO_5, HB⟩ := hrel
              cases gk with
              | zero => exact absurd HA.out (by simp [tegulalaw47_DurableSurvivors.l0])
              | succ k2 =>
                have H := HA.out
                clear HA
                simp only [tegulalaw47_DurableSurvivors.l0] at H
                by_cases c23 : x7_2 < (t335.length : Int)
                · rw [if_pos c23] at H
                  have c23b0 : decide (x7_2 < (t335.length : Int)) = true := decide_eq_true c23
                  clear c23
                  by_cases c24 : 0 ≤ x7_2
                  · rw [if_pos c24] at H
                    have c24b0 : decide (0 ≤ x7_2) = true := decide_eq_true c24
                    clear c24
                    by_cases c25 : x7_2 < (t339.length : Int)
                    · rw [if_pos c25] at H
                      have c25b0 : decide (x7_2 < (t339.length : Int)) = true := decide_eq_true c25
                      clear c25
                      by_cases c26 : (rd t335 x7_2) = (rd t339 x7_2)
                      · rw [if_pos c26] at H
                        have c26b0 : ((rd t335 x7_2) == (rd t339 x7_2)) = true := beq_iff_eq.mpr c26
                        have c26b1 : ((rd t335 x7_2) != (rd t339 x7_2)) = false := bne_eq_false_iff_eq.mpr c26
                        clear c26
                        have H' := Aside0.mk H
                        clear H
                        obtain ⟨Ao27, co27, eo27⟩ := Kd.R_slice HO_3.out
                        subst eo27
                        have p345 : 0 ≤ (x7_2 : Int) := of_decide_eq_true (by first | (with_reducible assumption) | assumption)
                        have q345 : x7_2 < (t335.length : Int) := of_decide_eq_true (by first | (with_reducible assumption) | assumption)
                        obtain ⟨ad345, e345, hx345_0⟩ := Kd.at_int (Kd.R_reads' HO_3.out).2.2 x7_2 p345 q345
                        cases e345
                        replace p345 := eq_true p345
                        replace q345 := eq_true q345
                        obtain ⟨Ao28, co28, eo28⟩ := Kd.R_slice HO_5.out
                        subst eo28
                        have p346 : 0 ≤ (x7_2 : Int) := of_decide_eq_true (by first | (with_reducible assumption) | assumption)
                        have q346 : x7_2 < (t339.length : Int) := of_decide_eq_true (by first | (with_reducible assumption) | assumption)
                        obtain ⟨ad346, e346, hx346_0⟩ := Kd.at_int (Kd.R_reads' HO_5.out).2.2 x7_2 p346 q346
                        cases e346
                        replace p346 := eq_true p346
                        replace q346 := eq_true q346
                        go_wp2
                        repeat (go_quiet (fail); try go_wp2)
                        go_roundg k2
                        case measure => have := HJ7.out; have := HK2.out; omega
                        case rel => exact ⟨(wrap64 (x7_2 + 1)), (by first | rfl | (simp; done) | (simp [*]; done)), H', ⟨by have := HJ7.out; have := HK2.out; omega⟩, ⟨by (with_reducible repeat (first | apply Kd.R_alloc | apply Kd.R_drewN | apply Kd.R_drew)); exact HO_3.out⟩, ⟨by (with_reducible repeat (first | apply Kd.R_alloc | apply Kd.R_drewN | apply Kd.R_drew)); exact HO_5.out⟩, ⟨by repeat (first | (with_reducible first | exact HB.out | apply below_alloc | apply pw_below_drewN | apply below_drew1) | exact HB.out)⟩⟩
                      · rw [if_neg c26] at H
                        have c26b0 : ((rd t335 x7_2) == (rd t339 x7_2)) = false := beq_eq_false_iff_ne.mpr c26
                        have c26b1 : ((rd t335 x7_2) != (rd t339 x7_2)) = true := bne_iff_ne.mpr c26
                        obtain rfl := Option.some.inj H
                        obtain ⟨Ao29, co29, eo29⟩ := Kd.R_slice HO_3.out
                        subst eo29
                        have p345 : 0 ≤ (x7_2 : Int) := of_decide_eq_true (by first | (with_reducible assumption) | assumption)
                        have q345 : x7_2 < (t335.length : Int) := of_decide_eq_true (by first | (with_reducible assumption) | assumption)
                        obtain ⟨ad345, e345, hx345_0⟩ := Kd.at_int (Kd.R_reads' HO_3.out).2.2 x7_2 p345 q345
                        cases e345
                        replace p345 := eq_true p345
                        replace q345 := eq_true q345
                        obtain ⟨Ao30, co30, eo30⟩ := Kd.R_slice HO_5.out
                        subst eo30
                        have p346 : 0 ≤ (x7_2 : Int) := of_decide_eq_true (by first | (with_reducible assumption) | assumption)
                        have q346 : x7_2 < (t339.length : Int) := of_decide_eq_true (by first | (with_reducible assumption) | assumption)
                        obtain ⟨ad346, e346, hx346_0⟩ := Kd.at_int (Kd.R_reads' HO_5.out).2.2 x7_2 p346 q346
                        cases e346
                        replace p346 := eq_true p346
                        replace q346 := eq_true q346
                        go_wp2
                        repeat (go_quiet (fail); try go_wp2)
                        go_ret
                        exact ⟨by first | rfl | (simp [errW_none, errW_some] <;> rfl) | (simp [*, errW_none, errW_some] <;> rfl), by repeat (first | (with_reducible first | exact HB.out | apply below_alloc | apply pw_below_drewN | apply below_drew1) | exact HB.out)⟩
                    · rw [if_neg c25] at H
                      exact absurd H (by simp)
                  · rw [if_neg c24] at H
                    exact absurd H (by simp)
                · rw [if_neg c23] at H
                  have c23b0 : decide (x7_2 < (t335.length : Int)) = false := decide_eq_false c23
                  clear c23
                  obtain rfl := Option.some.inj H
                  obtain ⟨Ao31, co31, eo31⟩ := Kd.R_slice HO_3.out
                  subst eo31
                  go_wp2
                  repeat (go_quiet (fail); try go_wp2)
                  go_ret
                  exact ⟨by first | rfl | (simp [errW_none, errW_some] <;> rfl) | (simp [*, errW_none, errW_some] <;> rfl), by repeat (first | (with_reducible first | exact HB.out | apply below_alloc | apply pw_below_drewN | apply below_drew1) | exact HB.out)⟩
  · replace c3 := Bool.eq_false_iff.mpr c3
    subst c3
    have H1 : (some false) = some r := by rw [if_neg (show ¬ (false = true) by decide)] at H; exact H
    clear H
    have H := H1
    clear H1
    obtain rfl := Option.some.inj H
    go_enter Try.func8, Try.ntmps8
    go_wp2_with (first | (go_at_call 19; (with_reducible refine (tegulalaw47_awake.calls  false _ A2.out).mono ?_); rintro e w32 ⟨rfl, hb⟩; have n0_ := Aside0.mk (below_step (by repeat (first | (with_reducible first | exact HB.out | apply below_alloc | apply pw_below_drewN | apply below_drew1) | exact HB.out)) hb); clear HB; have HB := n0_; clear n0_; (try clear hb); (try clear hb2); (try clear hk); (try clear hi)))
    repeat (go_quiet (first | (go_at_call 19; (with_reducible refine (tegulalaw47_awake.calls  false _ A2.out).mono ?_); rintro e w32 ⟨rfl, hb⟩; have n0_ := Aside0.mk (below_step (by repeat (first | (with_reducible first | exact HB.out | apply below_alloc | apply pw_below_drewN | apply below_drew1) | exact HB.out)) hb); clear HB; have HB := n0_; clear n0_; (try clear hb); (try clear hb2); (try clear hk); (try clear hi))); try go_wp2_with (first | (go_at_call 19; (with_reducible refine (tegulalaw47_awake.calls  false _ A2.out).mono ?_); rintro e w32 ⟨rfl, hb⟩; have n0_ := Aside0.mk (below_step (by repeat (first | (with_reducible first | exact HB.out | apply below_alloc | apply pw_below_drewN | apply below_drew1) | exact HB.out)) hb); clear HB; have HB := n0_; clear n0_; (try clear hb); (try clear hb2); (try clear hk); (try clear hi))))
    go_ret
    exact ⟨by first | rfl | (simp [errW_none, errW_some] <;> rfl) | (simp [*, errW_none, errW_some] <;> rfl), by repeat (first | (with_reducible first | exact HB.out | apply below_alloc | apply pw_below_drewN | apply below_drew1) | exact HB.out)⟩

end Go.Proofs.Ytidghmgaaenihaa.Q

/-! part PLaw8 -/
namespace Go.Proofs.Ytidghmgaaenihaa.Q
open Go.RowKit Go.Proofs.YtidghmgaaenihaaW.PrintWords Go.Proofs.YtidghmgaaenihaaW.PrintLast Go.Proofs.YtidghmgaaenihaaW.PrintMore
set_option linter.unusedVariables false
set_option linter.unusedSimpArgs false
theorem awake47_true8 : tegulalaw47_awake.f = some true := by rfl
theorem law8_l0 (a : List Int) (ha : a.length ≤ 1000000) : ∀ d x, a.length - x = d → x ≤ a.length → tegulalaw47_DurableSurvivors.l0 (d + 1) a a (x : Nat) = some true
  | 0, x, hd, hx => by
    obtain rfl : x = a.length := by omega
    rw [tegulalaw47_DurableSurvivors.l0, if_neg (by omega)]
  | d + 1, x, hd, hx => by
    rw [tegulalaw47_DurableSurvivors.l0, if_pos (by omega), if_pos (by omega), if_pos (by omega), if_pos rfl, wrap_succ (by omega) (by omega)]
    exact law8_l0 a ha d (x + 1) (by omega) (by omega)
theorem surv_len (l : List S39) (hl : l.length ≤ 60) : (survQ l).1.length ≤ 60 := by
  unfold survQ
  split
  · exact Nat.le_trans (range_map_len _ _) (Nat.le_trans (opsP_len l) hl)
  · exact Nat.zero_le _
theorem law8_pure (l : List S39) : ∃ k, tegulalaw47_DurableSurvivors.f k l = some true := by
  by_cases hl : l.length ≤ 60
  · have h1 : durable_Survivors.f l = some (survQ l) := by rw [durable_Survivors.f, if_pos (by omega), survQ_eq]
    have h2 : tegularef47_Survivors.f l = some (survQ l) := by rw [tegularef47_Survivors.f, if_pos (by omega)]
    have h3 : durable_Traceable.f l = some (traceR l) := by rw [durable_Traceable.f, if_pos (by omega), trace_eq]
    have h4 : tegularef47_Traceable.f l = some (traceR l) := by rw [tegularef47_Traceable.f, if_pos (by omega)]
    refine ⟨(survQ l).1.length + 2, ?_⟩
    rw [tegulalaw47_DurableSurvivors.f, awake47_true8, Option.bind_some, if_pos rfl, if_neg (by omega), h1, Option.bind_some, h2, Option.bind_some, if_pos rfl, if_pos rfl, h3, Option.bind_some, h4, Option.bind_some, bne_self_eq_false, tegulalaw47_DurableSurvivors.j0, if_neg (by decide)]
    exact law8_l0 _ (by have := surv_len l hl; omega) _ 0 rfl (by omega)
  · exact ⟨0, by rw [tegulalaw47_DurableSurvivors.f, awake47_true8, Option.bind_some, if_pos rfl, if_pos (by omega)]⟩
theorem law8_walk (A : Option Addr) (c : Nat) (l : List S39) (w : World) (hr : Kd.C k39 w A l.length l) (hc : l.length ≤ c) :
    Calls Try.prog 8 #[.slice A l.length c] w fun e w' => e = .returned (.bool true) ∧ Below w.heap.size w w' := by
  obtain ⟨k, hk⟩ := law8_pure l
  exact tegulalaw47_DurableSurvivors.calls k A c l true w hr hc hk
end Go.Proofs.Ytidghmgaaenihaa.Q

/-! part HOpen -/
namespace Go.Proofs.Ytidghmgaaenihaa.Q
open Go.RowKit Go.Proofs.YtidghmgaaenihaaW.PrintWords Go.Proofs.YtidghmgaaenihaaW.PrintLast Go.Proofs.YtidghmgaaenihaaW.PrintMore
open Go.ChangeShapes Go.WideShapes Go.Deep
set_option linter.unusedVariables false
theorem cellsOf39 : Try.prog.cellsOf 39 = 6 := by kernel_rfl
theorem cellsOf3 : Try.prog.cellsOf 3 = 1 := by kernel_rfl
theorem cellsOf4 : Try.prog.cellsOf 4 = 1 := by kernel_rfl
instance : Inhabited S39 := ⟨⟨0, 0, false, 0, 0, false⟩⟩
theorem take1 {cs : List Value} {j : Nat} (h : j < cs.length) : (cs.drop j).take 1 = [cs[j]] := by
  rw [List.drop_eq_getElem_cons h]; rfl
theorem one39 (fs : Array Field) (h : Try.prog.underlying 39 = some (.struct fs)) : oneCellFields Try.prog fs = true := by
  rw [Try.underlying39] at h
  cases h
  kernel_rfl
set_option maxRecDepth 100000 in
theorem event_cells {H : Type} {enc : TypeId × Value → H} {w : World} {base : Nat} {spare : Nat → Bool} {held : Bool} {fuel : Nat} {cs : List Value} {x : DataW H × List MemPlace}
    (h : DataW.trod enc Try.prog w base spare held fuel 39 cs = some x) : ∃ e : S39, cs = [.int .i64 e.f0, .int .i64 e.f1, .bool e.f2, .int .i64 e.f3, .int .i64 e.f4, .bool e.f5] := by
  obtain ⟨ys, n, _, _, hlen, hyl, hf⟩ := DataW.trod_struct Try.underlying39 h
  rw [cellsOf39] at hlen
  match cs, hlen with
  | [c0, c1, c2, c3, c4, c5], _ =>
    match ys, hyl with
    | [y0, y1, y2, y3, y4, y5], _ =>
      have hone := hone_of (one39 _ Try.underlying39)
      have g0 := hf 0 _ rfl
      obtain ⟨o0, z0⟩ := hone 0 _ rfl
      rw [o0, z0] at g0
      obtain ⟨n0, e0, -, -⟩ := DataW.trod_int Try.underlying3 (show DataW.trod enc Try.prog w base spare held n 3 [c0] = some y0 from g0)
      have g1 := hf 1 _ rfl
      obtain ⟨o1, z1⟩ := hone 1 _ rfl
      rw [o1, z1] at g1
      obtain ⟨n1, e1, -, -⟩ := DataW.trod_int Try.underlying3 (show DataW.trod enc Try.prog w base spare held n 3 [c1] = some y1 from g1)
      have g2 := hf 2 _ rfl
      obtain ⟨o2, z2⟩ := hone 2 _ rfl
      rw [o2, z2] at g2
      obtain ⟨n2, e2, -⟩ := DataW.trod_bool Try.underlying4 (show DataW.trod enc Try.prog w base spare held n 4 [c2] = some y2 from g2)
      have g3 := hf 3 _ rfl
      obtain ⟨o3, z3⟩ := hone 3 _ rfl
      rw [o3, z3] at g3
      obtain ⟨n3, e3, -, -⟩ := DataW.trod_int Try.underlying3 (show DataW.trod enc Try.prog w base spare held n 3 [c3] = some y3 from g3)
      have g4 := hf 4 _ rfl
      obtain ⟨o4, z4⟩ := hone 4 _ rfl
      rw [o4, z4] at g4
      obtain ⟨n4, e4, -, -⟩ := DataW.trod_int Try.underlying3 (show DataW.trod enc Try.prog w base spare held n 3 [c4] = some y4 from g4)
      have g5 := hf 5 _ rfl
      obtain ⟨o5, z5⟩ := hone 5 _ rfl
      rw [o5, z5] at g5
      obtain ⟨n5, e5, -⟩ := DataW.trod_bool Try.underlying4 (show DataW.trod enc Try.prog w base spare held n 4 [c5] = some y5 from g5)
      refine ⟨⟨n0, n1, n2, n3, n4, n5⟩, ?_⟩
      simp only [List.cons.injEq, and_true] at e0 e1 e2 e3 e4 e5
      rw [e0, e1, e2, e3, e4, e5]
theorem open_events {H : Type} {enc : TypeId × Value → H} {w : World} {base : Nat} {spare : Nat → Bool} {held : Bool} {fuel : Nat} {A : Option Addr} {len cap : Nat} {x : DataW H × List MemPlace}
    (h : DataW.trod enc Try.prog w base spare held fuel 22 [.slice A len cap] = some x) : ∃ l : List S39, l.length = len ∧ len ≤ cap ∧ Kd.C k39 w A len l := by
  rcases open_slice Try.underlying22 h with ⟨hcs, _⟩ | ⟨a, len', cap', m, n, D, Pl, hcs, hb, hl, hm, hmm, hx, hi⟩
  · simp only [List.cons.injEq, Value.slice.injEq, and_true] at hcs
    obtain ⟨rfl, rfl, rfl⟩ := hcs
    exact ⟨[], rfl, Nat.le_refl _, rfl, by decide, fun h => absurd h (by decide)⟩
  · simp only [List.cons.injEq, Value.slice.injEq, and_true] at hcs
    obtain ⟨rfl, rfl, rfl⟩ := hcs
    rw [cellsOf39] at hi
    have each : ∀ i, i < len → ∃ e : S39, ∀ j u, [Value.int .i64 e.f0, .int .i64 e.f1, .bool e.f2, .int .i64 e.f3, .int .i64 e.f4, .bool e.f5][j]? = some u → w.cell? (a.add (i * 6 + j)) = some u := by
      intro i hil
      have him : i < m := by rw [hmm]; split <;> omega
      obtain ⟨cs', hc, ht⟩ := hi i him
      obtain ⟨e, rfl⟩ := event_cells ht
      obtain ⟨_, _, hat⟩ := World.cells?_some hc
      refine ⟨e, fun j u hj => ?_⟩
      have hj6 : j < 6 := (List.getElem?_eq_some_iff.1 hj).1
      rw [← Go.Deep.add_add, hat j hj6, hj]
    obtain ⟨q, hq⟩ := choose_lt each
    refine ⟨(List.range len).map q, by simp, hl, by simp, Nat.le_trans (Nat.le_trans hl hm) (by decide), fun _ => ⟨a, rfl, fun j p hj => ?_⟩⟩
    rw [List.getElem?_map] at hj
    obtain ⟨j', hj', rfl⟩ := Option.map_eq_some_iff.1 hj
    obtain ⟨hjl, e⟩ := List.getElem?_eq_some_iff.1 hj'
    rw [List.getElem_range] at e
    subst e
    rw [List.length_range] at hjl
    exact ⟨_, rfl, k39_mk w (q j), fun i u hu => hq j hjl i u hu⟩
end Go.Proofs.Ytidghmgaaenihaa.Q
