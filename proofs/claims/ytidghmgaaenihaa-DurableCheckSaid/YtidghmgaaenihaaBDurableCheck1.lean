/- Texts of this claim, packed: RStale, RTrace, RSurv, PSurv, RCheck, PCheck, Qe32, Q3, PLaw3, HOpen. -/
import Derived.Test.YtidghmgaaenihaaBDurableCheck0
import Derived.Test.YtidghmgaaenihaaQ0
import Derived.Test.YtidghmgaaenihaaHCheck
import Derived.Test.YtidghmgaaenihaaQ19
import Derived.Test.YtidghmgaaenihaaQe33
import Derived.Deep.Slices
import Derived.Deep.Fields
import Derived.ChangeSame
/-! part RStale -/
namespace Go.Proofs.Ytidghmgaaenihaa.Q
open Go.RowKit Go.Proofs.YtidghmgaaenihaaW.PrintWords Go.Proofs.YtidghmgaaenihaaW.PrintLast Go.Proofs.YtidghmgaaenihaaW.PrintMore
set_option linter.unusedVariables false
set_option linter.unusedSimpArgs false

def hideR (ops : List S60) (s : Int) (o : S60) : Bool := decide (s < 0) || (precB (opAt ops s.toNat) o || decide ((opAt ops s.toNat).f5 < o.f5))
def staleAt (ops : List S60) (r : S60) (s : Int) (i : Nat) : Bool := (opAt ops i).f3 && ((opAt ops i).f1 == r.f1 && (!((i : Int) == s) && (finalR ops i r && hideR ops s (opAt ops i))))
def firstI (n : Nat) (p : Nat → Bool) : Int := match (List.range n).find? p with | some i => i | none => -1
theorem firstI_hit {n i : Nat} {p : Nat → Bool} (h : i < n) (hn : ∀ j, j < i → p j = false) (hp : p i = true) : firstI n p = i := by
  have : (List.range n).find? p = some i := by
    rw [List.find?_range_eq_some]
    exact ⟨hp, List.mem_range.2 h, fun j hj => by rw [hn j hj]; rfl⟩
  simp only [firstI, this]
theorem firstI_miss {n : Nat} {p : Nat → Bool} (hn : ∀ j, j < n → p j = false) : firstI n p = -1 := by
  have : (List.range n).find? p = none := by
    rw [List.find?_eq_none]; intro j hj; rw [hn j (List.mem_range.1 hj)]; decide
  simp only [firstI, this]

set_option maxHeartbeats 8000000 in
set_option maxRecDepth 100000 in
theorem stale_ref (A : Option Addr) (c : Nat) (l : List S60) (r : S60) (s : Int) (hc : l.length ≤ c) (hsz : l.length ≤ 1000000) (hs : s < l.length) (w : World) (hr : Kd.C k60 w A l.length l) :
    Calls Try.prog 58 #[.slice A l.length c, .agg #[.int .i64 r.f0, .int .i64 r.f1, .int .i64 r.f2, .bool r.f3, .bool r.f4, .int .i64 r.f5, .int .i64 r.f6, .int .i64 r.f7], .int .i64 s] w fun e w' => e = .returned (.int .i64 (firstI l.length (staleAt l r s))) ∧ Below w.heap.size w w' := by
  have HR := Aside0.mk hr
  clear hr
  have HFn := Aside0.mk (fun (ad : Addr) (i : Nat) (hi : i < l.length) (W : World) (h : Kd.C k60 W (some ad) l.length l) => final_ref ad c l i r hc hsz hi W h)
  obtain ⟨r0, r1, r2, r3, r4, r5, r6, r7⟩ := r
  simp only at HFn ⊢
  go_enter Try.func58, Try.ntmps58
  go_wp2
  have HB0 := Aside0.mk (below_alloc (Below.refl w.heap.size w) (.cells #[.int .i64 r0, .int .i64 r1, .int .i64 r2, .bool r3, .bool r4, .int .i64 r5, .int .i64 r6, .int .i64 r7] 59))
  have HBK := Aside0.mk (blk_new w (.cells #[.int .i64 r0, .int .i64 r1, .int .i64 r2, .bool r3, .bool r4, .int .i64 r5, .int .i64 r6, .int .i64 r7] 59))
  generalize (w.alloc (.cells #[.int .i64 r0, .int .i64 r1, .int .i64 r2, .bool r3, .bool r4, .int .i64 r5, .int .i64 r6, .int .i64 r7] 59)) = wb at HB0 HBK ⊢
  have hgl : w.heap.size < wb.heap.size := (Array.getElem?_eq_some_iff.1 HBK.out).1
  go_loopw [7] (fun v7 wr => ∃ x : Nat, x ≤ l.length ∧ v7 = .int .i64 x ∧ Aside0 (∀ i, i < x → staleAt l ⟨r0, r1, r2, r3, r4, r5, r6, r7⟩ s i = false) ∧ Aside0 (Below wb.heap.size wb wr))
    (fun v7 _ => l.length - (intOf v7).toNat)
  case atStart => exact ⟨0, by omega, rfl, ⟨fun i hi => absurd hi (by omega)⟩, ⟨Below.refl _ _⟩⟩
  case round =>
    obtain ⟨x, hx, rfl, HN, HW⟩ := hrel
    have HB := Aside0.mk (below_then HB0.out (below_size HB0.out) HW.out)
    by_cases hlt : x < l.length
    · have hltb : (x : Int) < (l.length : Int) := by omega
      have hxb : (x : Int) < 1000000 := by omega
      have hx0 : (0 : Int) ≤ x := by omega
      obtain ⟨ad, eA⟩ := row_some HR.out hlt
      subst eA
      obtain ⟨o, HOo⟩ : ∃ o, Aside0 (opAt l x = o) := ⟨_, ⟨rfl⟩⟩
      obtain ⟨b, hb⟩ : ∃ b, staleAt l ⟨r0, r1, r2, r3, r4, r5, r6, r7⟩ s x = b := ⟨_, rfl⟩
      have HF := Aside0.mk hb
      obtain ⟨fb, hfb⟩ : ∃ fb, finalR l x ⟨r0, r1, r2, r3, r4, r5, r6, r7⟩ = fb := ⟨_, rfl⟩
      have HFb := Aside0.mk hfb
      unfold staleAt at hb
      rw [HOo.out, hfb] at hb
      clear hfb
      have HRW := Aside0.mk (Kd.C_below HR.out HB.out)
      obtain ⟨g0, g1, g2, g3, g4, g5, g6, g7⟩ := at_op HRW.out x hlt
      rw [HOo.out] at g0 g1 g2 g3 g4 g5 g6 g7
      have HN2 := Aside0.mk (fun h : staleAt l ⟨r0, r1, r2, r3, r4, r5, r6, r7⟩ s x = false => (fun i hi => (Nat.lt_succ_iff_lt_or_eq.1 hi).elim (HN.out i) (fun e => e ▸ h) : ∀ i, i < x + 1 → staleAt l ⟨r0, r1, r2, r3, r4, r5, r6, r7⟩ s i = false))
      have HY := Aside0.mk (fun h : staleAt l ⟨r0, r1, r2, r3, r4, r5, r6, r7⟩ s x = true => firstI_hit hlt HN.out h)
      have HPr := Aside0.mk (fun a => prec93_calls a (opAt l x))
      rw [HOo.out] at HPr
      obtain ⟨o0, o1, o2, o3, o4, o5, o6, o7⟩ := o
      simp only at g0 g1 g2 g3 g4 g5 g6 g7 hb HPr
      clear g0 g1 g2 g3 g4 g5 g6 g7
      obtain ⟨g0, g1, g2, g3, g4, g5, g6, g7⟩ := at_op HRW.out x hlt
      rw [HOo.out] at g0 g1 g2 g3 g4 g5 g6 g7
      simp only at g0 g1 g2 g3 g4 g5 g6 g7
      have HBR := blk_old HBK.out HW.out
      have hgr : w.heap.size < wr.heap.size := (Array.getElem?_eq_some_iff.1 HBR).1
      have e0 : wr.cell? ⟨w.heap.size, 0, none⟩ = some (.int .i64 r0) := (blk_cell HBR 0).trans rfl
      have e1 : wr.cell? ⟨w.heap.size, 1, none⟩ = some (.int .i64 r1) := (blk_cell HBR 1).trans rfl
      have e2 : wr.cell? ⟨w.heap.size, 2, none⟩ = some (.int .i64 r2) := (blk_cell HBR 2).trans rfl
      have e3 : wr.cell? ⟨w.heap.size, 3, none⟩ = some (.bool r3) := (blk_cell HBR 3).trans rfl
      have e4 : wr.cell? ⟨w.heap.size, 4, none⟩ = some (.bool r4) := (blk_cell HBR 4).trans rfl
      have e5 : wr.cell? ⟨w.heap.size, 5, none⟩ = some (.int .i64 r5) := (blk_cell HBR 5).trans rfl
      have e6 : wr.cell? ⟨w.heap.size, 6, none⟩ = some (.int .i64 r6) := (blk_cell HBR 6).trans rfl
      have e7 : wr.cell? ⟨w.heap.size, 7, none⟩ = some (.int .i64 r7) := (blk_cell HBR 7).trans rfl
      clear HBR
      cases o3 with
      | false =>
        rw [Bool.false_and] at hb
        subst hb
        go_wp2
        go_roundw
        case rel => exact ⟨x + 1, by omega, by first | rfl | simp, ⟨HN2.out HF.out⟩, ⟨below_alloc HW.out _⟩⟩
        case measure => simp [intOf]; omega
      | true =>
        rw [Bool.true_and] at hb
        cases h1 : (o1 == r1) with
        | false =>
          have h1n : (o1 != r1) = true := by rw [bne, h1]; rfl
          rw [h1, Bool.false_and] at hb
          subst hb
          go_wp2
          go_roundw
          case rel => exact ⟨x + 1, by omega, by first | rfl | simp, ⟨HN2.out HF.out⟩, ⟨below_alloc HW.out _⟩⟩
          case measure => simp [intOf]; omega
        | true =>
          have h1n : (o1 != r1) = false := by rw [bne, h1]; rfl
          rw [h1, Bool.true_and] at hb
          cases hxs : ((x : Int) == s) with
          | true =>
            rw [hxs, Bool.not_true, Bool.false_and] at hb
            subst hb
            go_wp2
            go_roundw
            case rel => exact ⟨x + 1, by omega, by first | rfl | simp, ⟨HN2.out HF.out⟩, ⟨below_alloc HW.out _⟩⟩
            case measure => simp [intOf]; omega
          | false =>
            rw [hxs, Bool.not_false, Bool.true_and] at hb
            go_wp2_with fail
            (with_reducible refine (HFn.out ad x hlt _ (Kd.C_below HR.out (below_alloc HB.out _))).mono ?_)
            rintro e w2 ⟨rfl, hb2⟩
            rw [HFb.out]
            have HWA2 := Aside0.mk (below_step (below_alloc HW.out (.cells #[.int .i64 o0, .int .i64 o1, .int .i64 o2, .bool true, .bool o4, .int .i64 o5, .int .i64 o6, .int .i64 o7] 59)) hb2)
            have HWB2 := Aside0.mk (below_step (below_alloc HB.out (.cells #[.int .i64 o0, .int .i64 o1, .int .i64 o2, .bool true, .bool o4, .int .i64 o5, .int .i64 o6, .int .i64 o7] 59)) hb2)
            have HO2 := blk_old (blk_new wr (.cells #[.int .i64 o0, .int .i64 o1, .int .i64 o2, .bool true, .bool o4, .int .i64 o5, .int .i64 o6, .int .i64 o7] 59)) hb2
            clear hb2 g0 g1 g2 g3 g4 g5 g6 g7 e0 e1 e2 e3 e4 e5 e6 e7
            cases fb with
            | false =>
              rw [Bool.false_and] at hb
              subst hb
              go_wp2
              go_roundw
              case rel => exact ⟨x + 1, by omega, by first | rfl | simp, ⟨HN2.out HF.out⟩, HWA2⟩
              case measure => simp [intOf]; omega
            | true =>
              rw [Bool.true_and] at hb
              unfold hideR at hb
              have k0 : w2.cell? ⟨wr.heap.size, 0, none⟩ = some (.int .i64 o0) := (blk_cell HO2 0).trans rfl
              have k1 : w2.cell? ⟨wr.heap.size, 1, none⟩ = some (.int .i64 o1) := (blk_cell HO2 1).trans rfl
              have k2 : w2.cell? ⟨wr.heap.size, 2, none⟩ = some (.int .i64 o2) := (blk_cell HO2 2).trans rfl
              have k3 : w2.cell? ⟨wr.heap.size, 3, none⟩ = some (.bool true) := (blk_cell HO2 3).trans rfl
              have k4 : w2.cell? ⟨wr.heap.size, 4, none⟩ = some (.bool o4) := (blk_cell HO2 4).trans rfl
              have k5 : w2.cell? ⟨wr.heap.size, 5, none⟩ = some (.int .i64 o5) := (blk_cell HO2 5).trans rfl
              have k6 : w2.cell? ⟨wr.heap.size, 6, none⟩ = some (.int .i64 o6) := (blk_cell HO2 6).trans rfl
              have k7 : w2.cell? ⟨wr.heap.size, 7, none⟩ = some (.int .i64 o7) := (blk_cell HO2 7).trans rfl
              have x0 := after_cell k0
              have x1 := after_cell k1
              have x2 := after_cell k2
              have x3 := after_cell k3
              have x4 := after_cell k4
              have x5 := after_cell k5
              have x6 := after_cell k6
              have x7 := after_cell k7
              by_cases hs0 : s < 0
              · have hs0b : decide (s < 0) = true := decide_eq_true hs0
                rw [hs0b, Bool.true_or] at hb
                subst hb
                clear HO2 k0 k1 k2 k3 k4 k5 k6 k7
                go_wp2_with fail
                refine region_after (by kernel_rfl) (by kernel_rfl) ?_
                repeat (go_big_quiet_step (fail))
                clear x0 x1 x2 x3 x4 x5 x6 x7
                refine wpQuiet_nil ?_
                rintro _ ⟨u, rfl⟩
                obtain ⟨W1, hu⟩ := u
                simp only
                have HU := Aside0.mk (below_step HWA2.out hu)
                have HUB := Aside0.mk (below_step HWB2.out hu)
                clear hu
                go_wp2
                go_ret
                exact ⟨by rw [HY.out HF.out]; rfl, HUB.out⟩
              · have hs0b : decide (s < 0) = false := decide_eq_false hs0
                rw [hs0b, Bool.false_or] at hb
                obtain ⟨k, rfl⟩ : ∃ k : Nat, s = k := ⟨s.toNat, by omega⟩
                rw [Int.toNat_natCast] at hb
                have hkl : k < l.length := by omega
                have hkb : (k : Int) < (l.length : Int) := hs
                have hk0 : (0 : Int) ≤ k := by omega
                obtain ⟨z, HZ⟩ : ∃ z, Aside0 (opAt l k = z) := ⟨_, ⟨rfl⟩⟩
                rw [HZ.out] at hb
                obtain ⟨z0, z1, z2, z3, z4, z5, z6, z7⟩ := at_op (Kd.C_below HR.out HWB2.out) k hkl
                rw [HZ.out] at z0 z1 z2 z3 z4 z5 z6 z7
                have HPz := Aside0.mk (HPr.out z)
                obtain ⟨p, hp⟩ : ∃ p, precB z ⟨o0, o1, o2, true, o4, o5, o6, o7⟩ = p := ⟨_, rfl⟩
                rw [hp] at hb HPz
                obtain ⟨q0, q1, q2, q3, q4, q5, q6, q7⟩ := z
                simp only at z0 z1 z2 z3 z4 z5 z6 z7 hb HPz
                have y0 := after_cell z0
                have y1 := after_cell z1
                have y2 := after_cell z2
                have y3 := after_cell z3
                have y4 := after_cell z4
                have y5 := after_cell z5
                have y6 := after_cell z6
                have y7 := after_cell z7
                clear hp HO2 k0 k1 k2 k3 k4 k5 k6 k7 z0 z1 z2 z3 z4 z5 z6 z7
                cases p with
                | true =>
                  rw [Bool.true_or] at hb
                  subst hb
                  go_wp2_with fail
                  refine region_after (by kernel_rfl) (by kernel_rfl) ?_
                  repeat (go_big_quiet_step ((go_at_call 93; exact after_call (HPz.out _))))
                  clear y0 y1 y2 y3 y4 y5 y6 y7 x0 x1 x2 x3 x4 x5 x6 x7
                  refine wpQuiet_nil ?_
                  rintro _ ⟨u, rfl⟩
                  obtain ⟨W1, hu⟩ := u
                  simp only
                  have HU := Aside0.mk (below_step HWA2.out hu)
                  have HUB := Aside0.mk (below_step HWB2.out hu)
                  clear hu
                  go_wp2
                  go_ret
                  exact ⟨by rw [HY.out HF.out]; rfl, HUB.out⟩
                | false =>
                  rw [Bool.false_or] at hb
                  subst hb
                  cases hd : decide (q5 < o5) with
                  | true =>
                    rw [hd] at HF
                    go_wp2_with fail
                    refine region_after (by kernel_rfl) (by kernel_rfl) ?_
                    repeat (go_big_quiet_step ((go_at_call 93; exact after_call (HPz.out _))))
                    clear y0 y1 y2 y3 y4 y5 y6 y7 x0 x1 x2 x3 x4 x5 x6 x7
                    refine wpQuiet_nil ?_
                    rintro _ ⟨u, rfl⟩
                    obtain ⟨W1, hu⟩ := u
                    simp only
                    have HU := Aside0.mk (below_step HWA2.out hu)
                    have HUB := Aside0.mk (below_step HWB2.out hu)
                    clear hu
                    go_wp2
                    go_ret
                    exact ⟨by rw [HY.out HF.out]; rfl, HUB.out⟩
                  | false =>
                    rw [hd] at HF
                    go_wp2_with fail
                    refine region_after (by kernel_rfl) (by kernel_rfl) ?_
                    repeat (go_big_quiet_step ((go_at_call 93; exact after_call (HPz.out _))))
                    clear y0 y1 y2 y3 y4 y5 y6 y7 x0 x1 x2 x3 x4 x5 x6 x7
                    refine wpQuiet_nil ?_
                    rintro _ ⟨u, rfl⟩
                    obtain ⟨W1, hu⟩ := u
                    simp only
                    have HU := Aside0.mk (below_step HWA2.out hu)
                    have HUB := Aside0.mk (below_step HWB2.out hu)
                    clear hu
                    go_wp2
                    go_roundw
                    case rel => exact ⟨x + 1, by omega, by first | rfl | simp, ⟨HN2.out HF.out⟩, HU⟩
                    case measure => simp [intOf]; omega
    · obtain rfl : x = l.length := by omega
      go_wp2
      go_ret
      exact ⟨by rw [firstI_miss HN.out]; rfl, HB.out⟩
end Go.Proofs.Ytidghmgaaenihaa.Q

/-! part RTrace -/
namespace Go.Proofs.Ytidghmgaaenihaa.Q
open Go.RowKit Go.Proofs.YtidghmgaaenihaaW.PrintWords Go.Proofs.YtidghmgaaenihaaW.PrintLast Go.Proofs.YtidghmgaaenihaaW.PrintMore
set_option linter.unusedVariables false
set_option linter.unusedSimpArgs false

def twin (ops : List S60) (i k : Nat) : Bool := (opAt ops k).f3 && ((opAt ops k).f1 == (opAt ops i).f1 && (opAt ops k).f2 == (opAt ops i).f2)
def badAt (ops : List S60) (i : Nat) : Bool := (opAt ops i).f3 && ((opAt ops i).f2 == 0 || (List.range i).any (twin ops i))
def traceQ (ops : List S60) (err : Int) : Bool := !(List.range ops.length).any (badAt ops) && err == 0
def traceR (l : List S39) : Bool := traceQ (opsP l).1 (opsP l).2
theorem opsP_len (l : List S39) : (opsP l).1.length ≤ l.length := by
  unfold opsP
  cases h : parseP l with
  | none => simp
  | some s => exact (ptake_inv l l.length h).len
theorem trace_bad {ops : List S60} {err : Int} {i : Nat} (hi : i < ops.length) (h : badAt ops i = true) : traceQ ops err = false := by rw [traceQ, range_yes hi h]; rfl
theorem trace_ok {ops : List S60} {err : Int} (h : ∀ i, i < ops.length → badAt ops i = false) : traceQ ops err = (err == 0) := by rw [traceQ, range_no h]; rfl

set_option maxHeartbeats 4000000 in
set_option maxRecDepth 100000 in
theorem trace_ref (A : Option Addr) (c : Nat) (l : List S39) (w : World) (hr : Kd.C k39 w A l.length l) (hc : l.length ≤ c) (hsz : l.length ≤ 1000000) :
    Calls Try.prog 30 #[.slice A l.length c] w fun e w' => e = .returned (.bool (traceR l)) ∧ Below w.heap.size w w' := by
  have HR := Aside0.mk hr
  clear hr
  have hol := opsP_len l
  have HO := Aside0.mk (fun (W : World) (h : Kd.C k39 W A l.length l) => ops_ref A c l W h hc hsz)
  unfold traceR
  generalize (opsP l).1 = ops at HO hol ⊢
  generalize (opsP l).2 = err at HO ⊢
  go_enter Try.func30, Try.ntmps30
  go_wp2_with fail
  (with_reducible refine (HO.out _ HR.out).mono ?_)
  rintro e w1 ⟨A1, c1, rfl, hC, hc1, hB⟩
  have HC := Aside0.mk hC
  have HB := Aside0.mk hB
  clear hC hB
  have hosz : ops.length ≤ 1000000 := by omega
  go_wp2
  go_loopw [5, 6] (fun v5 v6 wr => ∃ x : Nat, x ≤ ops.length ∧ v5 = .int .i64 x ∧ Aside0 (∀ i, i < x → badAt ops i = false) ∧ Aside0 (Below w1.heap.size w1 wr))
    (fun v5 _ _ => ops.length - (intOf v5).toNat)
  case atStart => exact ⟨0, by omega, rfl, ⟨fun i hi => absurd hi (by omega)⟩, ⟨Below.refl _ _⟩⟩
  case round =>
    obtain ⟨x, hx, rfl, HN, HW⟩ := hrel
    by_cases hlt : x < ops.length
    · have hltb : (x : Int) < (ops.length : Int) := by omega
      have hxb : (x : Int) < 1000000 := by omega
      have hx0 : (0 : Int) ≤ x := by omega
      obtain ⟨ad, eA⟩ := row_some HC.out hlt
      subst eA
      have HCW := Aside0.mk (Kd.C_below HC.out HW.out)
      obtain ⟨g0, g1, g2, g3, g4, g5, g6, g7⟩ := at_op HCW.out x hlt
      obtain ⟨o, HOo⟩ : ∃ o, Aside0 (opAt ops x = o) := ⟨_, ⟨rfl⟩⟩
      rw [HOo.out] at g0 g1 g2 g3 g4 g5 g6 g7
      have HN2 := Aside0.mk (fun h : badAt ops x = false => (fun i hi => (Nat.lt_succ_iff_lt_or_eq.1 hi).elim (HN.out i) (fun e => e ▸ h) : ∀ i, i < x + 1 → badAt ops i = false))
      have HY := Aside0.mk (fun h : badAt ops x = true => (trace_bad hlt h : traceQ ops err = false))
      have HD : Aside0 (badAt ops x = (o.f3 && (o.f2 == 0 || (List.range x).any (twin ops x)))) := ⟨by rw [badAt, HOo.out]⟩
      have HTw : Aside0 (∀ k, twin ops x k = ((opAt ops k).f3 && ((opAt ops k).f1 == o.f1 && (opAt ops k).f2 == o.f2))) := ⟨fun k => by rw [twin, HOo.out]⟩
      obtain ⟨o0, o1, o2, o3, o4, o5, o6, o7⟩ := o
      simp only at g0 g1 g2 g3 g4 g5 g6 g7
      cases o3 with
      | false =>
        go_wp2
        go_roundw
        case rel => exact ⟨x + 1, by omega, by first | rfl | simp, ⟨HN2.out (by rw [HD.out]; rfl)⟩, HW⟩
        case measure => simp [intOf]; omega
      | true =>
        by_cases h20 : o2 = 0
        · subst h20
          go_wp2
          go_ret
          exact ⟨by rw [HY.out (by rw [HD.out]; rfl)]; rfl, below_then HB.out (below_size HB.out) HW.out⟩
        · have h20b : (o2 == 0) = false := by simpa using h20
          have HD2 : Aside0 (badAt ops x = (List.range x).any (twin ops x)) := ⟨by rw [HD.out]; simp [h20b]⟩
          clear h20
          go_wp2
          obtain ⟨wb, HWB⟩ : ∃ wb, Aside0 (wb = wr) := ⟨_, ⟨rfl⟩⟩
          clear g0 g1 g2 g3 g4 g5 g6 g7
          go_loopw [6] (fun v6 wr2 => ∃ y : Nat, y ≤ x ∧ v6 = .int .i64 y ∧ Aside0 (∀ i, i < y → twin ops x i = false) ∧ Aside0 (Below w1.heap.size w1 wr2))
            (fun v6 _ => x - (intOf v6).toNat)
          case atStart => exact ⟨0, by omega, rfl, ⟨fun i hi => absurd hi (by omega)⟩, HW⟩
          case round =>
            obtain ⟨y, hy, rfl, HM, HW2⟩ := hrel
            by_cases hyl : y < x
            · have hylb : (y : Int) < (x : Int) := by omega
              have hyob : (y : Int) < (ops.length : Int) := by omega
              have hy0 : (0 : Int) ≤ y := by omega
              have hyb : (y : Int) < 1000000 := by omega
              have HCW2 := Aside0.mk (Kd.C_below HC.out HW2.out)
              obtain ⟨g0, g1, g2, g3, g4, g5, g6, g7⟩ := at_op HCW2.out x hlt
              rw [HOo.out] at g0 g1 g2 g3 g4 g5 g6 g7
              obtain ⟨z0, z1, z2, z3, z4, z5, z6, z7⟩ := at_op HCW2.out y (by omega)
              obtain ⟨q, HQ⟩ : ∃ q, Aside0 (opAt ops y = q) := ⟨_, ⟨rfl⟩⟩
              rw [HQ.out] at z0 z1 z2 z3 z4 z5 z6 z7
              have HM2 := Aside0.mk (fun h : twin ops x y = false => (fun i hi => (Nat.lt_succ_iff_lt_or_eq.1 hi).elim (HM.out i) (fun e => e ▸ h) : ∀ i, i < y + 1 → twin ops x i = false))
              have HT : Aside0 (twin ops x y = (q.f3 && (q.f1 == o1 && q.f2 == o2))) := ⟨by rw [HTw.out, HQ.out]⟩
              obtain ⟨q0, q1, q2, q3, q4, q5, q6, q7⟩ := q
              simp only at g0 g1 g2 g3 g4 g5 g6 g7 z0 z1 z2 z3 z4 z5 z6 z7
              cases q3 with
              | false =>
                go_wp2_with fail
                go_quiet (fail)
                go_wp2
                go_roundw
                case rel => exact ⟨y + 1, by omega, by first | rfl | simp, ⟨HM2.out (by rw [HT.out]; rfl)⟩, ⟨by repeat (first | exact HW2.out | apply below_alloc | apply pw_below_drewN)⟩⟩
                case measure => simp [intOf]; omega
              | true =>
                cases k1 : (q1 == o1) with
                | false =>
                  have HT2 : Aside0 (twin ops x y = false) := ⟨by rw [HT.out]; simp [k1]⟩
                  go_wp2_with fail
                  go_quiet (fail)
                  go_wp2
                  go_roundw
                  case rel => exact ⟨y + 1, by omega, by first | rfl | simp, ⟨HM2.out HT2.out⟩, ⟨by repeat (first | exact HW2.out | apply below_alloc | apply pw_below_drewN)⟩⟩
                  case measure => simp [intOf]; omega
                | true =>
                  cases k2 : (q2 == o2) with
                  | false =>
                    have HT2 : Aside0 (twin ops x y = false) := ⟨by rw [HT.out]; simp [k2]⟩
                    go_wp2_with fail
                    go_quiet (fail)
                    go_wp2
                    go_roundw
                    case rel => exact ⟨y + 1, by omega, by first | rfl | simp, ⟨HM2.out HT2.out⟩, ⟨by repeat (first | exact HW2.out | apply below_alloc | apply pw_below_drewN)⟩⟩
                    case measure => simp [intOf]; omega
                  | true =>
                    have HT2 : Aside0 (badAt ops x = true) := ⟨by rw [HD2.out]; exact range_yes hyl (by rw [HT.out]; simp [k1, k2])⟩
                    go_wp2_with fail
                    go_quiet (fail)
                    go_wp2
                    go_ret
                    exact ⟨by rw [HY.out HT2.out]; rfl, below_then HB.out (below_size HB.out) (by repeat (first | exact HW2.out | apply below_alloc | apply pw_below_drewN))⟩
            · obtain rfl : y = x := by omega
              go_wp2
              go_roundw
              case rel => exact ⟨y + 1, by omega, by first | rfl | simp, ⟨HN2.out (by rw [HD2.out]; exact range_no HM.out)⟩, HW2⟩
              case measure => simp [intOf]; omega
    · obtain rfl : x = ops.length := by omega
      have HZ := Aside0.mk (trace_ok HN.out : traceQ ops err = (err == 0))
      go_wp2
      go_ret
      exact ⟨by rw [HZ.out]; rfl, below_then HB.out (below_size HB.out) HW.out⟩
end Go.Proofs.Ytidghmgaaenihaa.Q

/-! part RSurv -/
namespace Go.Proofs.Ytidghmgaaenihaa.Q
open Go.RowKit Go.Proofs.YtidghmgaaenihaaW.PrintWords Go.Proofs.YtidghmgaaenihaaW.PrintLast Go.Proofs.YtidghmgaaenihaaW.PrintMore
set_option linter.unusedVariables false
set_option linter.unusedSimpArgs false

def tegularef47_Traceable.f (l0 : List S39) : Option Bool := if l0.length ≤ 1000000 then some (traceR l0) else none
theorem tegularef47_Traceable.calls (A0 : Option Addr) (c0 : Nat) (l0 : List S39) (r : Bool) (w : World) (hr0 : Kd.C k39 w A0 l0.length l0) (hc0 : l0.length ≤ c0) (h : tegularef47_Traceable.f l0 = some r) :
    Calls Try.prog 30 #[.slice A0 l0.length c0] w fun e w' => e = .returned (.bool r) ∧ Below w.heap.size w w' := by
  unfold tegularef47_Traceable.f at h
  split at h
  · rename_i hsz
    obtain rfl := Option.some.inj h
    exact trace_ref A0 c0 l0 w hr0 hc0 hsz
  · cases h
def survQf (cuts : Int) (ops : List S60) (i : Nat) : Option Int := if ((opAt ops i).f3 && (decide ((opAt ops i).f5 < cuts) && survR ops i)) = true then some (opAt ops i).f0 else none
def survQ (l : List S39) : List Int × Int := if traceR l = true then ((List.range (opsP l).1.length).filterMap (survQf (cutsN l) (opsP l).1), 0) else ([], 1)
def tegularef47_Survivors.f (l0 : List S39) : Option (List Int × Int) := if l0.length ≤ 1000000 then some (survQ l0) else none
theorem range_next {β : Type} (f : Nat → Option β) (x : Nat) : (List.range (x + 1)).filterMap f = (List.range x).filterMap f ++ (match f x with | some y => [y] | none => []) := by
  rw [List.range_succ, List.filterMap_append]
  cases hf : f x <;> simp [hf]
theorem range_map_len {β : Type} (f : Nat → Option β) (x : Nat) : ((List.range x).filterMap f).length ≤ x := by
  have := List.length_filterMap_le f (List.range x)
  rwa [List.length_range] at this

set_option maxHeartbeats 4000000 in
set_option maxRecDepth 100000 in
theorem surv_ref (A : Option Addr) (c : Nat) (l : List S39) (w : World) (hr : Kd.C k39 w A l.length l) (hc : l.length ≤ c) (hsz : l.length ≤ 1000000) :
    Calls Try.prog 28 #[.slice A l.length c] w (SurvPost (survQ l).1 (survQ l).2 w) := by
  have HR := Aside0.mk hr
  clear hr
  have hol := opsP_len l
  have HO := Aside0.mk (fun (W : World) (h : Kd.C k39 W A l.length l) => ops_ref A c l W h hc hsz)
  obtain ⟨tb, htb⟩ : ∃ tb, traceR l = tb := ⟨_, rfl⟩
  have HT := Aside0.mk (fun (W : World) (h : Kd.C k39 W A l.length l) => trace_ref A c l W h hc hsz)
  rw [htb] at HT
  cases tb with
  | false =>
    have HQ : Aside0 (survQ l = ([], 1)) := ⟨by rw [survQ, htb]; rfl⟩
    rw [HQ.out]
    clear htb
    go_enter Try.func28, Try.ntmps28
    go_wp2_with fail
    (with_reducible refine (HT.out _ HR.out).mono ?_)
    rintro e w1 ⟨rfl, hB⟩
    have HB := Aside0.mk hB
    clear hB
    go_wp2
    go_ret2
    exact ⟨_, rfl, Kd.R_nil _ _ _ _ _, HB.out⟩
  | true =>
    have HQ : Aside0 (survQ l = ((List.range (opsP l).1.length).filterMap (survQf (cutsN l) (opsP l).1), 0)) := ⟨by rw [survQ, htb]; rfl⟩
    rw [HQ.out]
    clear htb HQ
    generalize (opsP l).1 = ops at HO hol ⊢
    generalize (opsP l).2 = err at HO
    go_enter Try.func28, Try.ntmps28
    go_wp2_with fail
    (with_reducible refine (HT.out _ HR.out).mono ?_)
    rintro e w1 ⟨rfl, hB⟩
    have HB1 := Aside0.mk hB
    clear hB
    go_wp2
    go_loopw [4, 5] (fun v4 v5 wr => ∃ x n : Int, 0 ≤ x ∧ x ≤ l.length ∧ 0 ≤ n ∧ n ≤ x ∧ v5 = .int .i64 x ∧ v4 = .int .i64 n ∧ Aside0 (n = cutsN (l.take x.toNat)) ∧ Aside0 (Below w.heap.size w wr))
      (fun _ v5 _ => l.length - (intOf v5).toNat)
    case atStart => exact ⟨0, 0, by omega, by omega, by omega, by omega, rfl, rfl, ⟨rfl⟩, HB1⟩
    case round =>
      obtain ⟨x, n, hx0, hx1, hn0, hn1, rfl, rfl, HN, HW⟩ := hrel
      by_cases hlt : x < l.length
      · obtain ⟨ad, eA, s0, s1, s2, s3, s4, s5⟩ := at_T39 (Kd.C_below HR.out HW.out) x hx0 hlt
        subst eA
        have HCN := Aside0.mk (cuts_next hx0 hlt)
        obtain ⟨e, HE⟩ : ∃ e, Aside0 (rd_T39 l x = e) := ⟨_, ⟨rfl⟩⟩
        rw [HE.out] at s0 s1 s2 s3 s4 s5 HCN
        obtain ⟨e0, e1, e2, e3, e4, e5⟩ := e
        simp only at s0 s1 s2 s3 s4 s5 HCN
        by_cases h3 : e0 = 3
        · have h3' : (e0 == 3) = true := by simpa using h3
          have HC2 := Aside0.mk (show n + 1 = cutsN (l.take (x + 1).toNat) by rw [HCN.out, if_pos h3, HN.out])
          clear h3
          go_wp2
          go_roundw
          case rel => exact ⟨x + 1, n + 1, by omega, by omega, by omega, by omega, rfl, rfl, HC2, HW⟩
          case measure => simp [intOf]; omega
        · have h3' : (e0 == 3) = false := by simpa using h3
          have HC2 := Aside0.mk (show n = cutsN (l.take (x + 1).toNat) by rw [HCN.out, if_neg h3, HN.out]; omega)
          clear h3
          go_wp2
          go_roundw
          case rel => exact ⟨x + 1, n, by omega, by omega, by omega, by omega, rfl, rfl, HC2, HW⟩
          case measure => simp [intOf]; omega
      · obtain rfl : x = l.length := by omega
        rw [show ((l.length : Int)).toNat = l.length by omega, List.take_length] at HN
        go_wp2_with fail
        (with_reducible refine (HO.out _ (Kd.C_below HR.out HW.out)).mono ?_)
        rintro e wb ⟨A1, c1, rfl, hC, hc1, hB⟩
        have HC := Aside0.mk hC
        have HBB := Aside0.mk (below_step HW.out hB)
        clear hC hB HW
        have hosz : ops.length ≤ 1000000 := by omega
        go_wp2
        go_loopw [8, 9] (fun v8 v9 wr => ∃ x : Nat, x ≤ ops.length ∧ v9 = .int .i64 x ∧ Aside0 (Kd.R (Kd.int .i64) 3 wr wb.heap.size (fun _ => True) v8 ((List.range x).filterMap (survQf n ops))) ∧ Aside0 (Below wb.heap.size wb wr))
          (fun _ v9 _ => ops.length - (intOf v9).toNat)
        case atStart => exact ⟨0, by omega, rfl, ⟨Kd.R_nil _ _ _ _ _⟩, ⟨Below.refl _ _⟩⟩
        case round =>
          obtain ⟨x, hx, rfl, HOw, HW⟩ := hrel
          by_cases hlt : x < ops.length
          · have hltb : (x : Int) < (ops.length : Int) := by omega
            have hxb : (x : Int) < 1000000 := by omega
            have hx0 : (0 : Int) ≤ x := by omega
            obtain ⟨ad, eA⟩ := row_some HC.out hlt
            subst eA
            obtain ⟨g0, g1, g2, g3, g4, g5, g6, g7⟩ := at_op (Kd.C_below HC.out HW.out) x hlt
            obtain ⟨o, HOo⟩ : ∃ o, Aside0 (opAt ops x = o) := ⟨_, ⟨rfl⟩⟩
            rw [HOo.out] at g0 g1 g2 g3 g4 g5 g6 g7
            obtain ⟨sv, hsv⟩ : ∃ sv, survR ops x = sv := ⟨_, rfl⟩
            have HSO : Aside0 (survQf n ops x = if (o.f3 && (decide (o.f5 < n) && sv)) = true then some o.f0 else none) := ⟨by rw [survQf, HOo.out, hsv]⟩
            have HTM := Aside0.mk (range_next (survQf n ops) x)
            have LM := Aside0.mk (Nat.le_trans (range_map_len (survQf n ops) x) (show x ≤ 1000000 by omega))
            have HSv := Aside0.mk hsv
            clear hsv
            obtain ⟨o0, o1, o2, o3, o4, o5, o6, o7⟩ := o
            simp only at g0 g1 g2 g3 g4 g5 g6 g7 HSO
            rw [HSO.out] at HTM
            cases o3 with
            | false =>
              go_wp2
              go_roundw
              case rel => exact ⟨x + 1, by omega, by first | rfl | simp, ⟨by rw [HTM.out]; simp only [Bool.false_and, Bool.false_eq_true, if_false, List.append_nil]; exact HOw.out⟩, HW⟩
              case measure => simp [intOf]; omega
            | true =>
              cases h5 : decide (o5 < n) with
              | false =>
                rw [h5] at HTM
                go_wp2
                go_roundw
                case rel => exact ⟨x + 1, by omega, by first | rfl | simp, ⟨by rw [HTM.out]; simp only [Bool.true_and, Bool.false_and, Bool.false_eq_true, if_false, List.append_nil]; exact HOw.out⟩, HW⟩
                case measure => simp [intOf]; omega
              | true =>
                rw [h5] at HTM
                go_wp2_with fail
                (with_reducible refine (surv_loop_ref ad c1 ops x hc1 hosz hlt _ (Kd.C_below HC.out HW.out)).mono ?_)
                rintro e w3 ⟨rfl, hb3⟩
                rw [HSv.out]
                have HW3 := Aside0.mk (below_step HW.out hb3)
                have HO3 := Aside0.mk (Kd.R_below HOw.out hb3)
                clear hb3 g0 g1 g2 g3 g4 g5 g6 g7
                cases sv with
                | false =>
                  go_wp2
                  go_roundw
                  case rel => exact ⟨x + 1, by omega, by first | rfl | simp, ⟨by rw [HTM.out]; simp only [Bool.true_and, Bool.false_eq_true, if_false, List.append_nil]; exact HO3.out⟩, HW3⟩
                  case measure => simp [intOf]; omega
                | true =>
                  obtain ⟨g0, -⟩ := at_op (Kd.C_below HC.out HW3.out) x hlt
                  rw [HOo.out] at g0
                  simp only at g0
                  go_wp2_with (at_builtin; go_loud (refine Kd.R_append (Kd.int .i64) (w0 := wb) wb.heap.size rfl (.tmp 57) (.tmp 63) 40 3 (.int .i64 0) 8 rfl Try.underlying40 info3 rfl (by decide) (by omega) _ _ o0 [.int .i64 o0] (fun _ => True) (fun _ => False) rfl rfl rfl (fun _ hk => hk.elim) (fun _ _ => trivial) HO3.out HW3.out (below_size HW3.out) (by have := LM.out; omega) ?_); intro v1 w4 ho hb hg hat; have HO4 := Aside0.mk ho; have HB4 := Aside0.mk hb; clear ho hb hg hat)
                  go_roundw
                  case rel => exact ⟨x + 1, by omega, by first | rfl | simp, ⟨by rw [HTM.out]; simp only [Bool.true_and, if_true]; exact HO4.out⟩, HB4⟩
                  case measure => simp [intOf]; omega
          · obtain rfl : x = ops.length := by omega
            rw [HN.out] at HOw
            go_wp2
            go_ret2
            exact ⟨_, rfl, Kd.R_lower HOw.out (below_size HBB.out), below_then HBB.out (below_size HBB.out) HW.out⟩
theorem tegularef47_Survivors.calls (A0 : Option Addr) (c0 : Nat) (l0 : List S39) (r1 : List Int) (r2 : Int) (w : World) (hr0 : Kd.C k39 w A0 l0.length l0) (hc0 : l0.length ≤ c0) (h : tegularef47_Survivors.f l0 = some (r1, r2)) :
    Calls Try.prog 28 #[.slice A0 l0.length c0] w fun e w' => ∃ v0_ : Value, e = .returned (.tuple #[v0_, .int .i64 r2]) ∧ Kd.R (Kd.int .i64) 3 w' w.heap.size (fun _ => True) v0_ r1 ∧ Below w.heap.size w w' := by
  unfold tegularef47_Survivors.f at h
  split at h
  · rename_i hsz
    have e := Option.some.inj h
    have e1 : (survQ l0).1 = r1 := by rw [e]
    have e2 : (survQ l0).2 = r2 := by rw [e]
    have := surv_ref A0 c0 l0 w hr0 hc0 hsz
    rw [e1, e2] at this
    exact this
  · cases h
end Go.Proofs.Ytidghmgaaenihaa.Q

/-! part PSurv -/
namespace Go.Proofs.Ytidghmgaaenihaa.Q
open Go.RowKit
set_option linter.unusedVariables false
set_option linter.unusedSimpArgs false

theorem opAt_mem {ops : List S60} {i : Nat} (h : i < ops.length) : opAt ops i ∈ ops := by rw [opAt_get h]; exact List.getElem_mem _
theorem mem_opAt {ops : List S60} {o : S60} (h : o ∈ ops) : ∃ i, i < ops.length ∧ o = opAt ops i := by
  obtain ⟨i, hi, rfl⟩ := List.mem_iff_getElem.1 h
  exact ⟨i, hi, (opAt_get hi).symm⟩
theorem src_none {ops : List S60} {k : Nat} (hk : k ≤ ops.length) (r v : Int) : (srcIx (ops.take k) r v).isNone = !(List.range k).any (fun i => isSrc r v (opAt ops i)) := by
  cases h : srcIx (ops.take k) r v with
  | none =>
    have := List.findIdx?_eq_none_iff.1 h
    rw [range_no (fun i hi => ?_)]
    · rfl
    · refine this _ (List.mem_iff_getElem.2 ⟨i, by rw [List.length_take]; omega, ?_⟩)
      rw [List.getElem_take, opAt_get (by omega)]
  | some i =>
    obtain ⟨h1, h2, _⟩ := List.findIdx?_eq_some_iff_getElem.1 h
    rw [List.length_take] at h1
    rw [List.getElem_take, ← opAt_get (by omega)] at h2
    rw [range_yes (show i < k by omega) h2]
    rfl
theorem okAt_bad {l : List S39} {s : List S60 × Int} (hs : parseP l = some s) {k : Nat} (hk : k < s.1.length) : okAt s.1 k = !badAt s.1 k := by
  obtain ⟨c1, c2, c3, c4⟩ := (parse_tinv hs).cal _ (opAt_mem hk)
  unfold okAt badAt
  rw [src_none (by omega)]
  cases h3 : (opAt s.1 k).f3 with
  | false => rfl
  | true =>
    obtain ⟨c5, c6⟩ := c4 h3
    have e : (fun i => isSrc (opAt s.1 k).f1 (opAt s.1 k).f2 (opAt s.1 i)) = twin s.1 k := rfl
    rw [e]
    have e2 : decide (1 ≤ (opAt s.1 k).f2) = !((opAt s.1 k).f2 == 0) := by
      by_cases h0 : (opAt s.1 k).f2 = 0
      · simp [h0]
      · rw [decide_eq_true (by omega)]; simp [h0]
    rw [e2]
    cases ((opAt s.1 k).f2 == 0) <;> cases (List.range k).any (twin s.1 k) <;> rfl
theorem okW_all {l : List S39} {s : List S60 × Int} (hs : parseP l = some s) : ∀ k, k ≤ s.1.length → okW s.1 k = !(List.range k).any (badAt s.1)
  | 0, _ => rfl
  | k + 1, hk => by
    rw [okW, okW_all hs k (by omega), okAt_bad hs (by omega), List.range_succ, List.any_append]
    simp
theorem trace_eq (l : List S39) : traceR l = (beginP l).isSome := by
  unfold traceR traceQ beginP opsP
  cases hs : parseP l with
  | none => rfl
  | some s =>
    simp only
    rw [← okW_all hs _ (Nat.le_refl _)]
    cases okW s.1 s.1.length <;> rfl
theorem srcI_eq (ops : List S60) (r v : Int) (s : Nat) : (srcI ops r v == (s : Int)) = true ↔ srcIx ops r v = some s := by
  unfold srcI idxOf srcIx
  cases h : ops.findIdx? (isSrc r v) with
  | none => simp
  | some i => simp; omega
theorem certain_eq {ops : List S60} (hnd : ops.Pairwise (fun a b => a.f0 ≠ b.f0)) {w : Nat} (hw : w < ops.length) : certainB ops (opAt ops w) = survR ops w := by
  unfold certainB survR
  split
  · rfl
  · split
    · rfl
    · rw [Bool.eq_iff_iff]
      simp only [Bool.or_eq_true, List.any_eq_true]
      constructor
      · rintro (⟨o, ho, h⟩ | ⟨o, ho, h⟩)
        · obtain ⟨i, hi, rfl⟩ := mem_opAt ho
          split
          · rfl
          · refine List.any_eq_true.2 ⟨i, List.mem_range.2 hi, ?_⟩
            unfold rule1 at h
            unfold survAt
            simp only [Bool.and_eq_true] at h ⊢
            obtain ⟨h1, h2, h3, h4⟩ := h
            rw [h1, h2, h3, h4]
            simp
        · unfold rule2 at h
          rw [Bool.and_eq_true] at h
          obtain ⟨h1, h2⟩ := h
          split at h2
          · cases h2
          · rename_i s hsrc
            obtain ⟨hs1, hs2⟩ := src_lt hsrc
            simp only [Bool.and_eq_true, Bool.or_eq_true, beq_iff_eq] at h2
            obtain ⟨h3, h4, h5⟩ := h2
            have hsn : seenR ops s = true := List.any_eq_true.2 ⟨o, ho, by
              unfold seenB
              rw [h1, h4, (srcI_eq ops _ _ s).2 hsrc]; rfl⟩
            rcases h5 with h5 | h5
            · have : s = w := by
                rcases Nat.lt_trichotomy s w with hlt | rfl | hgt
                · exact absurd h5 (ids_ne hnd hlt hw)
                · rfl
                · exact absurd h5.symm (ids_ne hnd hgt hs1)
              subst this
              rw [if_pos hsn]
            · split
              · rfl
              · refine List.any_eq_true.2 ⟨s, List.mem_range.2 hs1, ?_⟩
                unfold survAt
                unfold isSrc at hs2
                rw [Bool.and_eq_true] at hs2
                rw [h3, h5, hsn, hs2.1]
                simp
      · intro h
        split at h
        · rename_i hsn
          obtain ⟨o, ho, h1⟩ := List.any_eq_true.1 hsn
          unfold seenB at h1
          simp only [Bool.and_eq_true] at h1
          obtain ⟨h1, h2, h3⟩ := h1
          refine .inr ⟨o, ho, ?_⟩
          unfold rule2
          rw [(srcI_eq ops _ _ w).1 h3]
          simp [h1]
          exact of_decide_eq_true h2
        · obtain ⟨i, hi, h1⟩ := List.any_eq_true.1 h
          have hi := List.mem_range.1 hi
          unfold survAt at h1
          simp only [Bool.and_eq_true, Bool.or_eq_true] at h1
          obtain ⟨h5, hp, hq⟩ := h1
          rcases hq with ⟨h4, h7⟩ | ⟨h3, hsn⟩
          · refine .inl ⟨opAt ops i, opAt_mem hi, ?_⟩
            unfold rule1
            rw [h4, h7, h5, hp]; rfl
          · obtain ⟨o, ho, h1⟩ := List.any_eq_true.1 hsn
            unfold seenB at h1
            simp only [Bool.and_eq_true] at h1
            obtain ⟨h1, h2, h6⟩ := h1
            refine .inr ⟨o, ho, ?_⟩
            unfold rule2
            rw [(srcI_eq ops _ _ i).1 h6]
            simp only
            rw [h1, h5, h2, hp]
            simp
theorem lookB_surv {ops : List S60} (hnd : ops.Pairwise (fun a b => a.f0 ≠ b.f0)) {i : Nat} (hi : i < ops.length) (h3 : (opAt ops i).f3 = true) : ∀ k, k ≤ ops.length → lookB (survP ops k) (opAt ops i).f0 = (decide (i < k) && certainB ops (opAt ops i))
  | 0, _ => by simp [survP, lookB]
  | k + 1, hk => by
    have ih := lookB_surv hnd hi h3 k (by omega)
    rw [survP]
    rcases Nat.lt_trichotomy i k with hlt | rfl | hgt
    · have hne : ((opAt ops k).f0 == (opAt ops i).f0) = false := by simpa using fun e => ids_ne hnd hlt (by omega) e.symm
      split
      · unfold lookB at ih ⊢
        rw [List.any_append, ih, List.any_cons, List.any_nil, hne, decide_eq_true hlt, decide_eq_true (show i < k + 1 by omega)]
        simp
      · rw [ih, decide_eq_true hlt, decide_eq_true (show i < k + 1 by omega)]
    · rw [if_pos h3]
      unfold lookB at ih ⊢
      rw [List.any_append, ih, List.any_cons, List.any_nil, beq_self_eq_true, decide_eq_false (Nat.lt_irrefl _), decide_eq_true (Nat.lt_succ_self _)]
      simp
    · have hne : ((opAt ops k).f0 == (opAt ops i).f0) = false := by simpa using ids_ne hnd hgt hi
      split
      · unfold lookB at ih ⊢
        rw [List.any_append, ih, List.any_cons, List.any_nil, hne, decide_eq_false (show ¬ i < k by omega), decide_eq_false (show ¬ i < k + 1 by omega)]
        simp
      · rw [ih, decide_eq_false (show ¬ i < k by omega), decide_eq_false (show ¬ i < k + 1 by omega)]
theorem surv_sv {ops : List S60} (hnd : ops.Pairwise (fun a b => a.f0 ≠ b.f0)) {i : Nat} (hi : i < ops.length) (h3 : (opAt ops i).f3 = true) : lookB (survP ops ops.length) (opAt ops i).f0 = survR ops i := by
  rw [lookB_surv hnd hi h3 _ (Nat.le_refl _), decide_eq_true hi, Bool.true_and, certain_eq hnd hi]
theorem ops_range (ops : List S60) : ops = (List.range ops.length).map (opAt ops) := by
  apply List.ext_getElem
  · simp
  · intro i h1 h2
    rw [List.getElem_map, List.getElem_range, opAt_get h1]
theorem filter_range {β : Type} (ops : List S60) (f : S60 → Option β) : ops.filterMap f = (List.range ops.length).filterMap (fun i => f (opAt ops i)) := by
  conv => lhs; rw [ops_range ops]
  rw [List.filterMap_map]; rfl
theorem range_congr {β : Type} {f g : Nat → Option β} : ∀ {n : Nat}, (∀ i, i < n → f i = g i) → (List.range n).filterMap f = (List.range n).filterMap g
  | 0, _ => rfl
  | n + 1, h => by
    rw [range_next, range_next, range_congr (fun i hi => h i (by omega)), h n (by omega)]
theorem survQ_eq (l : List S39) : survQ l = survivorsP l := by
  unfold survQ survivorsP
  rw [trace_eq]
  unfold beginP opsP
  cases hs : parseP l with
  | none => rfl
  | some s =>
    simp only
    cases hk : okW s.1 s.1.length with
    | false => rfl
    | true =>
      simp only [if_true, Option.isSome_some]
      have hnd := (ptake_inv l l.length hs).nodup
      rw [filter_range]
      congr 1
      apply range_congr
      intro i hi
      unfold survQf survOf
      cases h3 : (opAt s.1 i).f3 with
      | false => rfl
      | true => rw [surv_sv hnd hi h3]
end Go.Proofs.Ytidghmgaaenihaa.Q

/-! part RCheck -/
namespace Go.Proofs.Ytidghmgaaenihaa.Q
open Go.RowKit Go.Proofs.YtidghmgaaenihaaW.PrintWords Go.Proofs.YtidghmgaaenihaaW.PrintLast Go.Proofs.YtidghmgaaenihaaW.PrintMore
set_option linter.unusedVariables false
set_option linter.unusedSimpArgs false

def staleF (ops : List S60) (r : S60) (s : Int) : Option S32 := if 0 ≤ firstI ops.length (staleAt ops r s) then some ⟨3, r.f0, (opAt ops (firstI ops.length (staleAt ops r s)).toNat).f0⟩ else none
def faultF (ops : List S60) (r : S60) (s : Int) : Option S32 :=
  if s < 0 then (if r.f2 = 0 then staleF ops r s else some ⟨1, r.f0, -1⟩)
  else if r.f7 < (opAt ops s.toNat).f6 then some ⟨2, r.f0, (opAt ops s.toNat).f0⟩ else staleF ops r s
def faultQ (ops : List S60) (i : Nat) : Option S32 := if ansB (opAt ops i) = true then faultF ops (opAt ops i) (srcI ops (opAt ops i).f1 (opAt ops i).f2) else none
def checkQ (l : List S39) : List S32 × Int := if traceR l = true then ((List.range (opsP l).1.length).filterMap (faultQ (opsP l).1), 0) else ([], 1)
def tegularef47_Check.f (l0 : List S39) : Option (List S32 × Int) := if l0.length ≤ 1000000 then some (checkQ l0) else none
def CheckPostR (r1 : List S32) (r2 : Int) (w : World) (e : Ending) (w' : World) : Prop :=
  ∃ v0_ : Value, e = .returned (.tuple #[v0_, .int .i64 r2]) ∧ Kd.R k32 32 w' w.heap.size (fun _ => True) v0_ r1 ∧ Below w.heap.size w w'
def tegularef47_Check.T14 : Bool × List (List Nat × List Nat) := (true, [([], []), ([], []), ([1], [1]), ([], []), ([], []), ([3, 4], [3, 4]), ([5], [5]), ([6], [6]), ([2, 7], [2, 7]), ([8], [8]), ([0, 9], [0, 9]), ([10, 10, 0, 1, 2, 3, 4, 5, 6, 7, 8, 9, 10], [0, 10])])
def tegularef47_Check.B14 : List Nat := [0, 0, 2, 0, 0, 24, 56, 120, 254, 510, 1023, 2047]
theorem tegularef47_Check.tab14 : rtab .any (opsOf Try.f21 14) = tegularef47_Check.T14 := by kernel_rfl
theorem tegularef47_Check.bits14 : waitsOk tegularef47_Check.T14.2 tegularef47_Check.B14 = true := by kernel_rfl
def tegularef47_Check.T17 : Bool × List (List Nat × List Nat) := (true, [([], []), ([], []), ([1], [1]), ([], []), ([], []), ([3, 4], [3, 4]), ([5], [5]), ([6], [6]), ([2, 7], [2, 7]), ([8], [8]), ([0, 9], [0, 9]), ([10, 10, 0, 1, 2, 3, 4, 5, 6, 7, 8, 9, 10], [0, 10])])
def tegularef47_Check.B17 : List Nat := [0, 0, 2, 0, 0, 24, 56, 120, 254, 510, 1023, 2047]
theorem tegularef47_Check.tab17 : rtab .any (opsOf Try.f21 17) = tegularef47_Check.T17 := by kernel_rfl
theorem tegularef47_Check.bits17 : waitsOk tegularef47_Check.T17.2 tegularef47_Check.B17 = true := by kernel_rfl
theorem firstI_range (n : Nat) (p : Nat → Bool) : -1 ≤ firstI n p ∧ firstI n p < n := by
  unfold firstI
  cases h : (List.range n).find? p with
  | none => simp only; omega
  | some i =>
    have := List.mem_range.1 (List.mem_of_find?_eq_some h)
    simp only; omega

set_option maxHeartbeats 8000000 in
set_option maxRecDepth 100000 in
theorem check_ref (A : Option Addr) (c : Nat) (l : List S39) (w : World) (hr : Kd.C k39 w A l.length l) (hc : l.length ≤ c) (hsz : l.length ≤ 1000000) :
    Calls Try.prog 21 #[.slice A l.length c] w (CheckPostR (checkQ l).1 (checkQ l).2 w) := by
  have HR := Aside0.mk hr
  clear hr
  have hol := opsP_len l
  have HO := Aside0.mk (fun (W : World) (h : Kd.C k39 W A l.length l) => ops_ref A c l W h hc hsz)
  obtain ⟨tb, htb⟩ : ∃ tb, traceR l = tb := ⟨_, rfl⟩
  have HT := Aside0.mk (fun (W : World) (h : Kd.C k39 W A l.length l) => trace_ref A c l W h hc hsz)
  rw [htb] at HT
  cases tb with
  | false =>
    have HQ : Aside0 (checkQ l = ([], 1)) := ⟨by rw [checkQ, htb]; rfl⟩
    rw [HQ.out]
    clear htb
    go_enter Try.func21, Try.ntmps21
    go_wp2_with fail
    (with_reducible refine (HT.out _ HR.out).mono ?_)
    rintro e w1 ⟨rfl, hB⟩
    have HB := Aside0.mk hB
    clear hB
    go_wp2
    go_ret2
    exact ⟨_, rfl, Kd.R_nil _ _ _ _ _, HB.out⟩
  | true =>
    have HQ : Aside0 (checkQ l = ((List.range (opsP l).1.length).filterMap (faultQ (opsP l).1), 0)) := ⟨by rw [checkQ, htb]; rfl⟩
    rw [HQ.out]
    clear htb HQ
    generalize (opsP l).1 = ops at HO hol ⊢
    generalize (opsP l).2 = err at HO
    go_enter Try.func21, Try.ntmps21
    go_wp2_with fail
    (with_reducible refine (HT.out _ HR.out).mono ?_)
    rintro e w1 ⟨rfl, hB⟩
    have HB1 := Aside0.mk hB
    clear hB
    go_wp2_with fail
    (with_reducible refine (HO.out _ (Kd.C_below HR.out HB1.out)).mono ?_)
    rintro e wb ⟨A1, c1, rfl, hC, hc1, hB⟩
    have HC := Aside0.mk hC
    have HBB := Aside0.mk (below_step HB1.out hB)
    clear hC hB
    have hosz : ops.length ≤ 1000000 := by omega
    go_wp2
    go_loopw [6, 7] (fun v6 v7 wr => ∃ x : Nat, x ≤ ops.length ∧ v7 = .int .i64 x ∧ Aside0 (Kd.R k32 32 wr wb.heap.size (fun _ => True) v6 ((List.range x).filterMap (faultQ ops))) ∧ Aside0 (Below wb.heap.size wb wr))
      (fun _ v7 _ => ops.length - (intOf v7).toNat)
    case atStart => exact ⟨0, by omega, rfl, ⟨Kd.R_nil _ _ _ _ _⟩, ⟨Below.refl _ _⟩⟩
    case round =>
      obtain ⟨x, hx, rfl, HOw, HW⟩ := hrel
      by_cases hlt : x < ops.length
      · have hltb : (x : Int) < (ops.length : Int) := by omega
        have hxb : (x : Int) < 1000000 := by omega
        have hx0 : (0 : Int) ≤ x := by omega
        obtain ⟨ad, eA⟩ := row_some HC.out hlt
        subst eA
        obtain ⟨g0, g1, g2, g3, g4, g5, g6, g7⟩ := at_op (Kd.C_below HC.out HW.out) x hlt
        obtain ⟨o, HOo⟩ : ∃ o, Aside0 (opAt ops x = o) := ⟨_, ⟨rfl⟩⟩
        rw [HOo.out] at g0 g1 g2 g3 g4 g5 g6 g7
        have HTM := Aside0.mk (range_next (faultQ ops) x)
        have LM := Aside0.mk (Nat.le_trans (range_map_len (faultQ ops) x) (show x ≤ 1000000 by omega))
        obtain ⟨an, han⟩ : ∃ an, ansB o = an := ⟨_, rfl⟩
        obtain ⟨s, hs⟩ : ∃ s, srcI ops o.f1 o.f2 = s := ⟨_, rfl⟩
        have hsr := idxOf_range ops (isSrc o.f1 o.f2)
        rw [show idxOf ops (isSrc o.f1 o.f2) = s from hs] at hsr
        have HQ : Aside0 (faultQ ops x = if an = true then faultF ops o s else none) := ⟨by rw [faultQ, HOo.out, han, hs]⟩
        have HAns := Aside0.mk (read56_calls o)
        rw [han] at HAns
        have HSrc := Aside0.mk (fun (W : World) (h : Kd.C k60 W (some ad) ops.length ops) => source_ref (some ad) c1 ops o W h hc1 hosz)
        rw [hs] at HSrc
        have HSt := Aside0.mk (fun (W : World) (h : Kd.C k60 W (some ad) ops.length ops) => stale_ref (some ad) c1 ops o s hc1 hosz hsr.2 W h)
        obtain ⟨fi, hfi⟩ : ∃ fi, firstI ops.length (staleAt ops o s) = fi := ⟨_, rfl⟩
        have hfr := firstI_range ops.length (staleAt ops o s)
        rw [hfi] at HSt hfr
        have HStF : Aside0 (staleF ops o s = if 0 ≤ fi then some ⟨3, o.f0, (opAt ops fi.toNat).f0⟩ else none) := ⟨by rw [staleF, hfi]⟩
        have HFF : Aside0 (faultF ops o s = if s < 0 then (if o.f2 = 0 then staleF ops o s else some ⟨1, o.f0, -1⟩) else if o.f7 < (opAt ops s.toNat).f6 then some ⟨2, o.f0, (opAt ops s.toNat).f0⟩ else staleF ops o s) := ⟨rfl⟩
        clear han hs hfi
        obtain ⟨o0, o1, o2, o3, o4, o5, o6, o7⟩ := o
        simp only at g0 g1 g2 g3 g4 g5 g6 g7 HAns HSrc HSt HStF HFF
        go_wp2_with fail
        (with_reducible refine (HAns.out _).mono ?_)
        rintro e w1 ⟨rfl, hb⟩
        have HW1 := Aside0.mk (below_step (below_alloc HW.out (.cells #[.int .i64 o0, .int .i64 o1, .int .i64 o2, .bool o3, .bool o4, .int .i64 o5, .int .i64 o6, .int .i64 o7] 59)) hb)
        have BK1 := Aside0.mk (blk_old (blk_new wr (.cells #[.int .i64 o0, .int .i64 o1, .int .i64 o2, .bool o3, .bool o4, .int .i64 o5, .int .i64 o6, .int .i64 o7] 59)) hb)
        have HO1 := Aside0.mk (Kd.R_below (Kd.R_alloc HOw.out (.cells #[.int .i64 o0, .int .i64 o1, .int .i64 o2, .bool o3, .bool o4, .int .i64 o5, .int .i64 o6, .int .i64 o7] 59)) hb)
        clear hb g0 g1 g2 g3 g4 g5 g6 g7
        cases an with
        | false =>
          have HV : Aside0 (faultQ ops x = none) := ⟨by rw [HQ.out]; rfl⟩
          go_wp2
          go_roundw
          case rel => exact ⟨x + 1, by omega, by first | rfl | simp, ⟨by rw [HTM.out, HV.out]; simp only [List.append_nil]; exact HO1.out⟩, HW1⟩
          case measure => simp [intOf]; omega
        | true =>
          have HQ2 : Aside0 (faultQ ops x = faultF ops ⟨o0, o1, o2, o3, o4, o5, o6, o7⟩ s) := ⟨by rw [HQ.out]; simp⟩
          have k0 : w1.cell? ⟨wr.heap.size, 0, none⟩ = some (.int .i64 o0) := (blk_cell BK1.out 0).trans rfl
          have k1 : w1.cell? ⟨wr.heap.size, 1, none⟩ = some (.int .i64 o1) := (blk_cell BK1.out 1).trans rfl
          have k2 : w1.cell? ⟨wr.heap.size, 2, none⟩ = some (.int .i64 o2) := (blk_cell BK1.out 2).trans rfl
          have k3 : w1.cell? ⟨wr.heap.size, 3, none⟩ = some (.bool o3) := (blk_cell BK1.out 3).trans rfl
          have k4 : w1.cell? ⟨wr.heap.size, 4, none⟩ = some (.bool o4) := (blk_cell BK1.out 4).trans rfl
          have k5 : w1.cell? ⟨wr.heap.size, 5, none⟩ = some (.int .i64 o5) := (blk_cell BK1.out 5).trans rfl
          have k6 : w1.cell? ⟨wr.heap.size, 6, none⟩ = some (.int .i64 o6) := (blk_cell BK1.out 6).trans rfl
          have k7 : w1.cell? ⟨wr.heap.size, 7, none⟩ = some (.int .i64 o7) := (blk_cell BK1.out 7).trans rfl
          go_wp2_with fail
          (with_reducible refine (HSrc.out _ (Kd.C_below HC.out HW1.out)).mono ?_)
          rintro e w2 ⟨rfl, hb⟩
          have HW2 := Aside0.mk (below_step HW1.out hb)
          have BK2 := Aside0.mk (blk_old BK1.out hb)
          have HO2 := Aside0.mk (Kd.R_below HO1.out hb)
          clear hb k0 k1 k2 k3 k4 k5 k6 k7
          have k0 : w2.cell? ⟨wr.heap.size, 0, none⟩ = some (.int .i64 o0) := (blk_cell BK2.out 0).trans rfl
          have k1 : w2.cell? ⟨wr.heap.size, 1, none⟩ = some (.int .i64 o1) := (blk_cell BK2.out 1).trans rfl
          have k2 : w2.cell? ⟨wr.heap.size, 2, none⟩ = some (.int .i64 o2) := (blk_cell BK2.out 2).trans rfl
          have k3 : w2.cell? ⟨wr.heap.size, 3, none⟩ = some (.bool o3) := (blk_cell BK2.out 3).trans rfl
          have k4 : w2.cell? ⟨wr.heap.size, 4, none⟩ = some (.bool o4) := (blk_cell BK2.out 4).trans rfl
          have k5 : w2.cell? ⟨wr.heap.size, 5, none⟩ = some (.int .i64 o5) := (blk_cell BK2.out 5).trans rfl
          have k6 : w2.cell? ⟨wr.heap.size, 6, none⟩ = some (.int .i64 o6) := (blk_cell BK2.out 6).trans rfl
          have k7 : w2.cell? ⟨wr.heap.size, 7, none⟩ = some (.int .i64 o7) := (blk_cell BK2.out 7).trans rfl
          by_cases hs0 : s < 0
          · have hs0b : decide (s < 0) = true := decide_eq_true hs0
            have hs0c : decide (0 ≤ s) = false := decide_eq_false (by omega)
            have HS0 := Aside0.mk hs0
            by_cases h20 : o2 = 0
            · subst h20
              have HFA : Aside0 (faultF ops ⟨o0, o1, 0, o3, o4, o5, o6, o7⟩ s = staleF ops ⟨o0, o1, 0, o3, o4, o5, o6, o7⟩ s) := ⟨by rw [HFF.out, if_pos hs0, if_pos rfl]⟩
              clear hs0
              go_wp2_with fail
              go_quiet (fail)
              go_wp2_with fail
              (with_reducible refine (HSt.out _ (Kd.C_below HC.out (pw_below_drewN HW2.out nq))).mono ?_)
              rintro e w3 ⟨rfl, hb⟩
              have HW3 := Aside0.mk (below_step (pw_below_drewN HW2.out nq) hb)
              have BK3 := Aside0.mk (blk_old (blk_old BK2.out (pw_below_drewN (Below.refl _ _) nq)) hb)
              have HO3 := Aside0.mk (Kd.R_below (Kd.R_drewN HO2.out nq) hb)
              clear hb k0 k1 k2 k3 k4 k5 k6 k7
              by_cases hfi : 0 ≤ fi
              · have hfib : decide (0 ≤ fi) = true := decide_eq_true hfi
                obtain ⟨m, rfl⟩ : ∃ m : Nat, fi = m := ⟨fi.toNat, by omega⟩
                have hml : m < ops.length := by omega
                have hmb : (m : Int) < (ops.length : Int) := by omega
                have hm0 : (0 : Int) ≤ m := by omega
                obtain ⟨z0, -⟩ := at_op (Kd.C_below HC.out HW3.out) m hml
                obtain ⟨z, hz⟩ : ∃ z, (opAt ops m).f0 = z := ⟨_, rfl⟩
                have HZ := Aside0.mk hz
                rw [hz] at z0
                clear hz
                have HV : Aside0 (faultQ ops x = some ⟨3, o0, z⟩) := ⟨by rw [HQ2.out, HFA.out, HStF.out, if_pos hm0, Int.toNat_natCast, HZ.out]⟩
                have k0 : w3.cell? ⟨wr.heap.size, 0, none⟩ = some (.int .i64 o0) := (blk_cell BK3.out 0).trans rfl
                have SK0 : w3.drew.cell? ⟨wr.heap.size, 0, none⟩ = some (.int .i64 o0) := k0
                have SZ0 : w3.drew.cell? (ad.add (m * 8)) = some (.int .i64 z) := z0
                have HOd := Kd.R_drew HO3.out
                have HWd := below_drew HW3.out
                go_wp2_with fail
                refine start_ (n := 12) (S := fun w' => w'.cell? ⟨wr.heap.size, 0, none⟩ = some (.int .i64 o0) ∧ w'.cell? (ad.add (m * 8)) = some (.int .i64 z)) (ds := [9, 10]) #[false, false, false, false, false, false, false, false, false, false, false, false] (by kernel_rfl) rfl rfl ⟨SK0, SZ0⟩ (fun hHeld => ?_); refine with_tabW tegularef47_Check.tab17 tegularef47_Check.bits17 (fun HT_ HW_ => ?_)
                refine pure_ (i := 0) (N := some 77) (v := ?_) (a' := ?_) #[true, false, false, false, false, false, false, false, false, false, false, false] rfl rfl (any_of HT_.out (by kernel_rfl)) (fun _ _ _ h => h) (Or.inl ⟨by rfl, ?_⟩) ?_ ?_
                rotate_left
                · intro w'
                  go_simp
                  with_reducible rfl
                rotate_left
                · simp only [Act.put, List.setIfInBounds_toArray, List.set_cons_zero, List.set_cons_succ, i64_w, i32_w]
                  rfl
                refine pure_ (i := 1) (N := some 78) (v := ?_) (a' := ?_) #[true, true, false, false, false, false, false, false, false, false, false, false] rfl rfl (any_of HT_.out (by kernel_rfl)) (fun _ _ _ h => h) (Or.inl ⟨by rfl, ?_⟩) ?_ ?_
                rotate_left
                · intro w'
                  go_simp
                  with_reducible rfl
                rotate_left
                · simp only [Act.put, List.setIfInBounds_toArray, List.set_cons_zero, List.set_cons_succ, i64_w, i32_w]
                  rfl
                refine pure_ (i := 3) (N := some 80) (v := ?_) (a' := ?_) #[true, true, false, true, false, false, false, false, false, false, false, false] rfl rfl (any_of HT_.out (by kernel_rfl)) (fun _ _ _ h => h) (Or.inl ⟨by rfl, ?_⟩) ?_ ?_
                rotate_left
                · intro w'
                  go_simp
                  with_reducible rfl
                rotate_left
                · simp only [Act.put, List.setIfInBounds_toArray, List.set_cons_zero, List.set_cons_succ, i64_w, i32_w]
                  rfl
                refine pure_ (i := 4) (N := some 81) (v := ?_) (a' := ?_) #[true, true, false, true, true, false, false, false, false, false, false, false] rfl rfl (any_of HT_.out (by kernel_rfl)) (fun _ _ _ h => h) (Or.inl ⟨by rfl, ?_⟩) ?_ ?_
                rotate_left
                · intro w'
                  go_simp
                  with_reducible rfl
                rotate_left
                · simp only [Act.put, List.setIfInBounds_toArray, List.set_cons_zero, List.set_cons_succ, i64_w, i32_w]
                  rfl
                refine pure_ (i := 5) (N := some 82) (v := ?_) (a' := ?_) #[true, true, false, true, true, true, false, false, false, false, false, false] rfl rfl (any_of HT_.out (by kernel_rfl)) (fun _ _ _ h => h) (Or.inl ⟨by rfl, ?_⟩) ?_ ?_
                rotate_left
                · intro w'
                  go_simp
                  with_reducible rfl
                rotate_left
                · simp only [Act.put, List.setIfInBounds_toArray, List.set_cons_zero, List.set_cons_succ, i64_w, i32_w]
                  rfl
                refine pure_ (i := 6) (N := some 83) (v := ?_) (a' := ?_) #[true, true, false, true, true, true, true, false, false, false, false, false] rfl rfl (any_of HT_.out (by kernel_rfl)) (fun _ _ _ h => h) (Or.inl ⟨by rfl, ?_⟩) ?_ ?_
                rotate_left
                · intro w'
                  go_simp
                  with_reducible rfl
                rotate_left
                · simp only [Act.put, List.setIfInBounds_toArray, List.set_cons_zero, List.set_cons_succ, i64_w, i32_w]
                  rfl
                refine take_ (i := 2) (N := some 79) (v := ?_) (a' := ?_) #[true, true, true, true, true, true, true, false, false, false, false, false] rfl rfl (take_ofW HT_.out HW_.out (by kernel_rfl)) (fun _ _ _ h => h) (Or.inl ⟨by rfl, ?_⟩) hHeld ?_ ?_
                rotate_left
                · rintro w' ⟨s0, s1⟩
                  go_simp
                  with_reducible rfl
                rotate_left
                · simp only [Act.put, List.setIfInBounds_toArray, List.set_cons_zero, List.set_cons_succ, i64_w, i32_w]
                  rfl
                refine take_ (i := 7) (N := some 84) (v := ?_) (a' := ?_) #[true, true, true, true, true, true, true, true, false, false, false, false] rfl rfl (take_ofW HT_.out HW_.out (by kernel_rfl)) (fun _ _ _ h => h) (Or.inl ⟨by rfl, ?_⟩) hHeld ?_ ?_
                rotate_left
                · rintro w' ⟨s0, s1⟩
                  go_simp
                  with_reducible rfl
                rotate_left
                · simp only [Act.put, List.setIfInBounds_toArray, List.set_cons_zero, List.set_cons_succ, i64_w, i32_w]
                  rfl
                refine pure_ (i := 8) (N := some 85) (v := ?_) (a' := ?_) #[true, true, true, true, true, true, true, true, true, false, false, false] rfl rfl (any_of HT_.out (by kernel_rfl)) (fun _ _ _ h => h) (Or.inl ⟨by rfl, ?_⟩) ?_ ?_
                rotate_left
                · intro w'
                  go_simp
                  with_reducible rfl
                rotate_left
                · simp only [Act.put, List.setIfInBounds_toArray, List.set_cons_zero, List.set_cons_succ, i64_w, i32_w]
                  rfl
                refine last_ (i := 9) (N := some 86) #[true, true, true, true, true, true, true, true, true, true, false, false] rfl rfl (one_of HT_.out (by kernel_rfl)) (by decide) (fun K hK => ?_)
                refine value_ (w1 := ?_) (v := ?_) (by rfl) rfl ?_ ?_
                rotate_left 2
                · go_simp
                  constructor
                  · rfl
                  · rfl
                refine hK.out _ _ ?_
                clear hK K
                refine norm_ (a' := ?_) ?_ ?_
                rotate_left
                · show Act.put _ (some 86) _ = _
                  simp only [Act.put, List.setIfInBounds_toArray, List.set_cons_zero, List.set_cons_succ, i64_w, i32_w]
                  rfl
                refine last_ (i := 10) (N := some 87) #[true, true, true, true, true, true, true, true, true, true, true, false] rfl rfl (one_of HT_.out (by kernel_rfl)) (by decide) (fun K hK => ?_)
                refine Kd.R_append_step k32 (w0 := wb) wb.heap.size (by rfl) (.tmp 77) (.tmp 86) 28 32 (.agg #[(.int .i64 0), (.int .i64 0), (.int .i64 0)]) 24 rfl Try.underlying28 info32 rfl (by decide) (by omega) _ _ ⟨3, o0, z⟩ [.int .i64 3, .int .i64 o0, .int .i64 z] (fun _ => True) (fun _ => False) rfl rfl (k32_mkM _ _ _ ⟨3, o0, z⟩) (fun _ hk => hk.elim) (fun _ _ => trivial) HOd HWd (below_size HWd) (by have := LM.out; omega) ?_
                intro v1 w9 ho hb hg hat
                have HO9 := Aside0.mk ho
                have HW9 := Aside0.mk hb
                clear ho hb hg hat
                refine hK.out _ _ ?_
                clear hK K
                refine norm_ (a' := ?_) ?_ ?_
                rotate_left
                · show Act.put _ (some 87) _ = _
                  simp only [Act.put, List.setIfInBounds_toArray, List.set_cons_zero, List.set_cons_succ, i64_w, i32_w]
                  rfl
                refine pure_ (i := 11) (N := some 6) (v := ?_) (a' := ?_) #[true, true, true, true, true, true, true, true, true, true, true, true] rfl rfl (any_of HT_.out (by kernel_rfl)) (fun _ _ _ h => h) (Or.inl ⟨by rfl, ?_⟩) ?_ ?_
                rotate_left
                · intro w'
                  go_simp
                  with_reducible rfl
                rotate_left
                · simp only [Act.put, List.setIfInBounds_toArray, List.set_cons_zero, List.set_cons_succ, i64_w, i32_w]
                  rfl
                refine done_ (done_of HT_.out (by kernel_rfl)) ?_
                go_wp2
                go_roundw
                case rel => exact ⟨x + 1, by omega, by first | rfl | simp, ⟨by rw [HTM.out, HV.out]; exact HO9.out⟩, HW9⟩
                case measure => simp [intOf]; omega
              · have hfib : decide (0 ≤ fi) = false := decide_eq_false hfi
                have HV : Aside0 (faultQ ops x = none) := ⟨by rw [HQ2.out, HFA.out, HStF.out, if_neg hfi]⟩
                go_wp2
                go_roundw
                case rel => exact ⟨x + 1, by omega, by first | rfl | simp, ⟨by rw [HTM.out, HV.out]; simp only [List.append_nil]; exact HO3.out⟩, HW3⟩
                case measure => simp [intOf]; omega
            · have h2b : (o2 == 0) = false := by simpa using h20
              have h2n : (o2 != 0) = true := by rw [bne, h2b]; rfl
              have HV : Aside0 (faultQ ops x = some ⟨1, o0, -1⟩) := ⟨by rw [HQ2.out, HFF.out, if_pos HS0.out, if_neg h20]⟩
              clear h20 hs0
              go_wp2_with (at_builtin; go_loud (refine Kd.R_append k32 (w0 := wb) wb.heap.size rfl (.tmp 42) (.tmp 46) 28 32 (.agg #[(.int .i64 0), (.int .i64 0), (.int .i64 0)]) 24 rfl Try.underlying28 info32 rfl (by decide) (by omega) _ _ ⟨1, o0, (-1)⟩ [.int .i64 1, .int .i64 o0, .int .i64 (-1)] (fun _ => True) (fun _ => False) rfl rfl (k32_mkM _ _ _ ⟨1, o0, (-1)⟩) (fun _ hk => hk.elim) (fun _ _ => trivial) (HO2.out) (HW2.out) (below_size (HW2.out)) (by have := LM.out; omega) ?_); intro v1 w9 ho hb hg hat; have HO9 := Aside0.mk ho; have HW9 := Aside0.mk hb; clear ho hb hg hat)
              go_roundw
              case rel => exact ⟨x + 1, by omega, by first | rfl | simp, ⟨by rw [HTM.out, HV.out]; exact HO9.out⟩, HW9⟩
              case measure => simp [intOf]; omega
          · have hs0b : decide (s < 0) = false := decide_eq_false hs0
            have hs0c : decide (0 ≤ s) = true := decide_eq_true (by omega)
            have HS0 := Aside0.mk hs0
            obtain ⟨k, rfl⟩ : ∃ k : Nat, s = k := ⟨s.toNat, by omega⟩
            have hkl : k < ops.length := by omega
            have hkb : (k : Int) < (ops.length : Int) := by omega
            have hk0 : (0 : Int) ≤ k := by omega
            rw [Int.toNat_natCast] at HFF
            obtain ⟨z0, z1, z2, z3, z4, z5, z6, z7⟩ := at_op (Kd.C_below HC.out HW2.out) k hkl
            obtain ⟨z, HZ⟩ : ∃ z, Aside0 (opAt ops k = z) := ⟨_, ⟨rfl⟩⟩
            rw [HZ.out] at z0 z1 z2 z3 z4 z5 z6 z7 HFF
            obtain ⟨q0, q1, q2, q3, q4, q5, q6, q7⟩ := z
            simp only at z0 z1 z2 z3 z4 z5 z6 z7 HFF
            clear hs0
            by_cases h67 : o7 < q6
            · have h67b : decide (o7 < q6) = true := decide_eq_true h67
              have HV : Aside0 (faultQ ops x = some ⟨2, o0, q0⟩) := ⟨by rw [HQ2.out, HFF.out, if_neg HS0.out, if_pos h67]⟩
              clear h67
              go_wp2_with fail
              go_quiet (fail)
              have HW2d := Aside0.mk (pw_below_drewN HW2.out nq)
              have HO2d := Aside0.mk (Kd.R_drewN HO2.out nq)
              have SK0 : (w2.drewN nq).drew.cell? ⟨wr.heap.size, 0, none⟩ = some (.int .i64 o0) := k0
              have SZ0 : (w2.drewN nq).drew.cell? (ad.add (k * 8)) = some (.int .i64 q0) := z0
              have HOd := Kd.R_drew HO2d.out
              have HWd := below_drew HW2d.out
              go_wp2_with fail
              refine start_ (n := 12) (S := fun w' => w'.cell? ⟨wr.heap.size, 0, none⟩ = some (.int .i64 o0) ∧ w'.cell? (ad.add (k * 8)) = some (.int .i64 q0)) (ds := [9, 10]) #[false, false, false, false, false, false, false, false, false, false, false, false] (by kernel_rfl) rfl rfl ⟨SK0, SZ0⟩ (fun hHeld => ?_); refine with_tabW tegularef47_Check.tab14 tegularef47_Check.bits14 (fun HT_ HW_ => ?_)
              refine pure_ (i := 0) (N := some 60) (v := ?_) (a' := ?_) #[true, false, false, false, false, false, false, false, false, false, false, false] rfl rfl (any_of HT_.out (by kernel_rfl)) (fun _ _ _ h => h) (Or.inl ⟨by rfl, ?_⟩) ?_ ?_
              rotate_left
              · intro w'
                go_simp
                with_reducible rfl
              rotate_left
              · simp only [Act.put, List.setIfInBounds_toArray, List.set_cons_zero, List.set_cons_succ, i64_w, i32_w]
                rfl
              refine pure_ (i := 1) (N := some 61) (v := ?_) (a' := ?_) #[true, true, false, false, false, false, false, false, false, false, false, false] rfl rfl (any_of HT_.out (by kernel_rfl)) (fun _ _ _ h => h) (Or.inl ⟨by rfl, ?_⟩) ?_ ?_
              rotate_left
              · intro w'
                go_simp
                with_reducible rfl
              rotate_left
              · simp only [Act.put, List.setIfInBounds_toArray, List.set_cons_zero, List.set_cons_succ, i64_w, i32_w]
                rfl
              refine pure_ (i := 3) (N := some 63) (v := ?_) (a' := ?_) #[true, true, false, true, false, false, false, false, false, false, false, false] rfl rfl (any_of HT_.out (by kernel_rfl)) (fun _ _ _ h => h) (Or.inl ⟨by rfl, ?_⟩) ?_ ?_
              rotate_left
              · intro w'
                go_simp
                with_reducible rfl
              rotate_left
              · simp only [Act.put, List.setIfInBounds_toArray, List.set_cons_zero, List.set_cons_succ, i64_w, i32_w]
                rfl
              refine pure_ (i := 4) (N := some 64) (v := ?_) (a' := ?_) #[true, true, false, true, true, false, false, false, false, false, false, false] rfl rfl (any_of HT_.out (by kernel_rfl)) (fun _ _ _ h => h) (Or.inl ⟨by rfl, ?_⟩) ?_ ?_
              rotate_left
              · intro w'
                go_simp
                with_reducible rfl
              rotate_left
              · simp only [Act.put, List.setIfInBounds_toArray, List.set_cons_zero, List.set_cons_succ, i64_w, i32_w]
                rfl
              refine pure_ (i := 5) (N := some 65) (v := ?_) (a' := ?_) #[true, true, false, true, true, true, false, false, false, false, false, false] rfl rfl (any_of HT_.out (by kernel_rfl)) (fun _ _ _ h => h) (Or.inl ⟨by rfl, ?_⟩) ?_ ?_
              rotate_left
              · intro w'
                go_simp
                with_reducible rfl
              rotate_left
              · simp only [Act.put, List.setIfInBounds_toArray, List.set_cons_zero, List.set_cons_succ, i64_w, i32_w]
                rfl
              refine pure_ (i := 6) (N := some 66) (v := ?_) (a' := ?_) #[true, true, false, true, true, true, true, false, false, false, false, false] rfl rfl (any_of HT_.out (by kernel_rfl)) (fun _ _ _ h => h) (Or.inl ⟨by rfl, ?_⟩) ?_ ?_
              rotate_left
              · intro w'
                go_simp
                with_reducible rfl
              rotate_left
              · simp only [Act.put, List.setIfInBounds_toArray, List.set_cons_zero, List.set_cons_succ, i64_w, i32_w]
                rfl
              refine take_ (i := 2) (N := some 62) (v := ?_) (a' := ?_) #[true, true, true, true, true, true, true, false, false, false, false, false] rfl rfl (take_ofW HT_.out HW_.out (by kernel_rfl)) (fun _ _ _ h => h) (Or.inl ⟨by rfl, ?_⟩) hHeld ?_ ?_
              rotate_left
              · rintro w' ⟨s0, s1⟩
                go_simp
                with_reducible rfl
              rotate_left
              · simp only [Act.put, List.setIfInBounds_toArray, List.set_cons_zero, List.set_cons_succ, i64_w, i32_w]
                rfl
              refine take_ (i := 7) (N := some 67) (v := ?_) (a' := ?_) #[true, true, true, true, true, true, true, true, false, false, false, false] rfl rfl (take_ofW HT_.out HW_.out (by kernel_rfl)) (fun _ _ _ h => h) (Or.inl ⟨by rfl, ?_⟩) hHeld ?_ ?_
              rotate_left
              · rintro w' ⟨s0, s1⟩
                go_simp
                with_reducible rfl
              rotate_left
              · simp only [Act.put, List.setIfInBounds_toArray, List.set_cons_zero, List.set_cons_succ, i64_w, i32_w]
                rfl
              refine pure_ (i := 8) (N := some 68) (v := ?_) (a' := ?_) #[true, true, true, true, true, true, true, true, true, false, false, false] rfl rfl (any_of HT_.out (by kernel_rfl)) (fun _ _ _ h => h) (Or.inl ⟨by rfl, ?_⟩) ?_ ?_
              rotate_left
              · intro w'
                go_simp
                with_reducible rfl
              rotate_left
              · simp only [Act.put, List.setIfInBounds_toArray, List.set_cons_zero, List.set_cons_succ, i64_w, i32_w]
                rfl
              refine last_ (i := 9) (N := some 69) #[true, true, true, true, true, true, true, true, true, true, false, false] rfl rfl (one_of HT_.out (by kernel_rfl)) (by decide) (fun K hK => ?_)
              refine value_ (w1 := ?_) (v := ?_) (by rfl) rfl ?_ ?_
              rotate_left 2
              · go_simp
                constructor
                · rfl
                · rfl
              refine hK.out _ _ ?_
              clear hK K
              refine norm_ (a' := ?_) ?_ ?_
              rotate_left
              · show Act.put _ (some 69) _ = _
                simp only [Act.put, List.setIfInBounds_toArray, List.set_cons_zero, List.set_cons_succ, i64_w, i32_w]
                rfl
              refine last_ (i := 10) (N := some 70) #[true, true, true, true, true, true, true, true, true, true, true, false] rfl rfl (one_of HT_.out (by kernel_rfl)) (by decide) (fun K hK => ?_)
              refine Kd.R_append_step k32 (w0 := wb) wb.heap.size (by rfl) (.tmp 60) (.tmp 69) 28 32 (.agg #[(.int .i64 0), (.int .i64 0), (.int .i64 0)]) 24 rfl Try.underlying28 info32 rfl (by decide) (by omega) _ _ ⟨2, o0, q0⟩ [.int .i64 2, .int .i64 o0, .int .i64 q0] (fun _ => True) (fun _ => False) rfl rfl (k32_mkM _ _ _ ⟨2, o0, q0⟩) (fun _ hk => hk.elim) (fun _ _ => trivial) HOd HWd (below_size HWd) (by have := LM.out; omega) ?_
              intro v1 w9 ho hb hg hat
              have HO9 := Aside0.mk ho
              have HW9 := Aside0.mk hb
              clear ho hb hg hat
              refine hK.out _ _ ?_
              clear hK K
              refine norm_ (a' := ?_) ?_ ?_
              rotate_left
              · show Act.put _ (some 70) _ = _
                simp only [Act.put, List.setIfInBounds_toArray, List.set_cons_zero, List.set_cons_succ, i64_w, i32_w]
                rfl
              refine pure_ (i := 11) (N := some 6) (v := ?_) (a' := ?_) #[true, true, true, true, true, true, true, true, true, true, true, true] rfl rfl (any_of HT_.out (by kernel_rfl)) (fun _ _ _ h => h) (Or.inl ⟨by rfl, ?_⟩) ?_ ?_
              rotate_left
              · intro w'
                go_simp
                with_reducible rfl
              rotate_left
              · simp only [Act.put, List.setIfInBounds_toArray, List.set_cons_zero, List.set_cons_succ, i64_w, i32_w]
                rfl
              refine done_ (done_of HT_.out (by kernel_rfl)) ?_
              go_wp2
              go_roundw
              case rel => exact ⟨x + 1, by omega, by first | rfl | simp, ⟨by rw [HTM.out, HV.out]; exact HO9.out⟩, HW9⟩
              case measure => simp [intOf]; omega
            · have h67b : decide (o7 < q6) = false := decide_eq_false h67
              have HFC : Aside0 (faultF ops ⟨o0, o1, o2, o3, o4, o5, o6, o7⟩ k = staleF ops ⟨o0, o1, o2, o3, o4, o5, o6, o7⟩ k) := ⟨by rw [HFF.out, if_neg HS0.out, if_neg h67]⟩
              clear h67
              go_wp2_with fail
              go_quiet (fail)
              clear z0 z1 z2 z3 z4 z5 z6 z7
              go_wp2_with fail
              (with_reducible refine (HSt.out _ (Kd.C_below HC.out (pw_below_drewN HW2.out nq))).mono ?_)
              rintro e w3 ⟨rfl, hb⟩
              have HW3 := Aside0.mk (below_step (pw_below_drewN HW2.out nq) hb)
              have BK3 := Aside0.mk (blk_old (blk_old BK2.out (pw_below_drewN (Below.refl _ _) nq)) hb)
              have HO3 := Aside0.mk (Kd.R_below (Kd.R_drewN HO2.out nq) hb)
              clear hb k0 k1 k2 k3 k4 k5 k6 k7
              by_cases hfi : 0 ≤ fi
              · have hfib : decide (0 ≤ fi) = true := decide_eq_true hfi
                obtain ⟨m, rfl⟩ : ∃ m : Nat, fi = m := ⟨fi.toNat, by omega⟩
                have hml : m < ops.length := by omega
                have hmb : (m : Int) < (ops.length : Int) := by omega
                have hm0 : (0 : Int) ≤ m := by omega
                obtain ⟨z0, -⟩ := at_op (Kd.C_below HC.out HW3.out) m hml
                obtain ⟨z, hz⟩ : ∃ z, (opAt ops m).f0 = z := ⟨_, rfl⟩
                have HZ := Aside0.mk hz
                rw [hz] at z0
                clear hz
                have HV : Aside0 (faultQ ops x = some ⟨3, o0, z⟩) := ⟨by rw [HQ2.out, HFC.out, HStF.out, if_pos hm0, Int.toNat_natCast, HZ.out]⟩
                have k0 : w3.cell? ⟨wr.heap.size, 0, none⟩ = some (.int .i64 o0) := (blk_cell BK3.out 0).trans rfl
                have SK0 : w3.drew.cell? ⟨wr.heap.size, 0, none⟩ = some (.int .i64 o0) := k0
                have SZ0 : w3.drew.cell? (ad.add (m * 8)) = some (.int .i64 z) := z0
                have HOd := Kd.R_drew HO3.out
                have HWd := below_drew HW3.out
                go_wp2_with fail
                refine start_ (n := 12) (S := fun w' => w'.cell? ⟨wr.heap.size, 0, none⟩ = some (.int .i64 o0) ∧ w'.cell? (ad.add (m * 8)) = some (.int .i64 z)) (ds := [9, 10]) #[false, false, false, false, false, false, false, false, false, false, false, false] (by kernel_rfl) rfl rfl ⟨SK0, SZ0⟩ (fun hHeld => ?_); refine with_tabW tegularef47_Check.tab17 tegularef47_Check.bits17 (fun HT_ HW_ => ?_)
                refine pure_ (i := 0) (N := some 77) (v := ?_) (a' := ?_) #[true, false, false, false, false, false, false, false, false, false, false, false] rfl rfl (any_of HT_.out (by kernel_rfl)) (fun _ _ _ h => h) (Or.inl ⟨by rfl, ?_⟩) ?_ ?_
                rotate_left
                · intro w'
                  go_simp
                  with_reducible rfl
                rotate_left
                · simp only [Act.put, List.setIfInBounds_toArray, List.set_cons_zero, List.set_cons_succ, i64_w, i32_w]
                  rfl
                refine pure_ (i := 1) (N := some 78) (v := ?_) (a' := ?_) #[true, true, false, false, false, false, false, false, false, false, false, false] rfl rfl (any_of HT_.out (by kernel_rfl)) (fun _ _ _ h => h) (Or.inl ⟨by rfl, ?_⟩) ?_ ?_
                rotate_left
                · intro w'
                  go_simp
                  with_reducible rfl
                rotate_left
                · simp only [Act.put, List.setIfInBounds_toArray, List.set_cons_zero, List.set_cons_succ, i64_w, i32_w]
                  rfl
                refine pure_ (i := 3) (N := some 80) (v := ?_) (a' := ?_) #[true, true, false, true, false, false, false, false, false, false, false, false] rfl rfl (any_of HT_.out (by kernel_rfl)) (fun _ _ _ h => h) (Or.inl ⟨by rfl, ?_⟩) ?_ ?_
                rotate_left
                · intro w'
                  go_simp
                  with_reducible rfl
                rotate_left
                · simp only [Act.put, List.setIfInBounds_toArray, List.set_cons_zero, List.set_cons_succ, i64_w, i32_w]
                  rfl
                refine pure_ (i := 4) (N := some 81) (v := ?_) (a' := ?_) #[true, true, false, true, true, false, false, false, false, false, false, false] rfl rfl (any_of HT_.out (by kernel_rfl)) (fun _ _ _ h => h) (Or.inl ⟨by rfl, ?_⟩) ?_ ?_
                rotate_left
                · intro w'
                  go_simp
                  with_reducible rfl
                rotate_left
                · simp only [Act.put, List.setIfInBounds_toArray, List.set_cons_zero, List.set_cons_succ, i64_w, i32_w]
                  rfl
                refine pure_ (i := 5) (N := some 82) (v := ?_) (a' := ?_) #[true, true, false, true, true, true, false, false, false, false, false, false] rfl rfl (any_of HT_.out (by kernel_rfl)) (fun _ _ _ h => h) (Or.inl ⟨by rfl, ?_⟩) ?_ ?_
                rotate_left
                · intro w'
                  go_simp
                  with_reducible rfl
                rotate_left
                · simp only [Act.put, List.setIfInBounds_toArray, List.set_cons_zero, List.set_cons_succ, i64_w, i32_w]
                  rfl
                refine pure_ (i := 6) (N := some 83) (v := ?_) (a' := ?_) #[true, true, false, true, true, true, true, false, false, false, false, false] rfl rfl (any_of HT_.out (by kernel_rfl)) (fun _ _ _ h => h) (Or.inl ⟨by rfl, ?_⟩) ?_ ?_
                rotate_left
                · intro w'
                  go_simp
                  with_reducible rfl
                rotate_left
                · simp only [Act.put, List.setIfInBounds_toArray, List.set_cons_zero, List.set_cons_succ, i64_w, i32_w]
                  rfl
                refine take_ (i := 2) (N := some 79) (v := ?_) (a' := ?_) #[true, true, true, true, true, true, true, false, false, false, false, false] rfl rfl (take_ofW HT_.out HW_.out (by kernel_rfl)) (fun _ _ _ h => h) (Or.inl ⟨by rfl, ?_⟩) hHeld ?_ ?_
                rotate_left
                · rintro w' ⟨s0, s1⟩
                  go_simp
                  with_reducible rfl
                rotate_left
                · simp only [Act.put, List.setIfInBounds_toArray, List.set_cons_zero, List.set_cons_succ, i64_w, i32_w]
                  rfl
                refine take_ (i := 7) (N := some 84) (v := ?_) (a' := ?_) #[true, true, true, true, true, true, true, true, false, false, false, false] rfl rfl (take_ofW HT_.out HW_.out (by kernel_rfl)) (fun _ _ _ h => h) (Or.inl ⟨by rfl, ?_⟩) hHeld ?_ ?_
                rotate_left
                · rintro w' ⟨s0, s1⟩
                  go_simp
                  with_reducible rfl
                rotate_left
                · simp only [Act.put, List.setIfInBounds_toArray, List.set_cons_zero, List.set_cons_succ, i64_w, i32_w]
                  rfl
                refine pure_ (i := 8) (N := some 85) (v := ?_) (a' := ?_) #[true, true, true, true, true, true, true, true, true, false, false, false] rfl rfl (any_of HT_.out (by kernel_rfl)) (fun _ _ _ h => h) (Or.inl ⟨by rfl, ?_⟩) ?_ ?_
                rotate_left
                · intro w'
                  go_simp
                  with_reducible rfl
                rotate_left
                · simp only [Act.put, List.setIfInBounds_toArray, List.set_cons_zero, List.set_cons_succ, i64_w, i32_w]
                  rfl
                refine last_ (i := 9) (N := some 86) #[true, true, true, true, true, true, true, true, true, true, false, false] rfl rfl (one_of HT_.out (by kernel_rfl)) (by decide) (fun K hK => ?_)
                refine value_ (w1 := ?_) (v := ?_) (by rfl) rfl ?_ ?_
                rotate_left 2
                · go_simp
                  constructor
                  · rfl
                  · rfl
                refine hK.out _ _ ?_
                clear hK K
                refine norm_ (a' := ?_) ?_ ?_
                rotate_left
                · show Act.put _ (some 86) _ = _
                  simp only [Act.put, List.setIfInBounds_toArray, List.set_cons_zero, List.set_cons_succ, i64_w, i32_w]
                  rfl
                refine last_ (i := 10) (N := some 87) #[true, true, true, true, true, true, true, true, true, true, true, false] rfl rfl (one_of HT_.out (by kernel_rfl)) (by decide) (fun K hK => ?_)
                refine Kd.R_append_step k32 (w0 := wb) wb.heap.size (by rfl) (.tmp 77) (.tmp 86) 28 32 (.agg #[(.int .i64 0), (.int .i64 0), (.int .i64 0)]) 24 rfl Try.underlying28 info32 rfl (by decide) (by omega) _ _ ⟨3, o0, z⟩ [.int .i64 3, .int .i64 o0, .int .i64 z] (fun _ => True) (fun _ => False) rfl rfl (k32_mkM _ _ _ ⟨3, o0, z⟩) (fun _ hk => hk.elim) (fun _ _ => trivial) HOd HWd (below_size HWd) (by have := LM.out; omega) ?_
                intro v1 w9 ho hb hg hat
                have HO9 := Aside0.mk ho
                have HW9 := Aside0.mk hb
                clear ho hb hg hat
                refine hK.out _ _ ?_
                clear hK K
                refine norm_ (a' := ?_) ?_ ?_
                rotate_left
                · show Act.put _ (some 87) _ = _
                  simp only [Act.put, List.setIfInBounds_toArray, List.set_cons_zero, List.set_cons_succ, i64_w, i32_w]
                  rfl
                refine pure_ (i := 11) (N := some 6) (v := ?_) (a' := ?_) #[true, true, true, true, true, true, true, true, true, true, true, true] rfl rfl (any_of HT_.out (by kernel_rfl)) (fun _ _ _ h => h) (Or.inl ⟨by rfl, ?_⟩) ?_ ?_
                rotate_left
                · intro w'
                  go_simp
                  with_reducible rfl
                rotate_left
                · simp only [Act.put, List.setIfInBounds_toArray, List.set_cons_zero, List.set_cons_succ, i64_w, i32_w]
                  rfl
                refine done_ (done_of HT_.out (by kernel_rfl)) ?_
                go_wp2
                go_roundw
                case rel => exact ⟨x + 1, by omega, by first | rfl | simp, ⟨by rw [HTM.out, HV.out]; exact HO9.out⟩, HW9⟩
                case measure => simp [intOf]; omega
              · have hfib : decide (0 ≤ fi) = false := decide_eq_false hfi
                have HV : Aside0 (faultQ ops x = none) := ⟨by rw [HQ2.out, HFC.out, HStF.out, if_neg hfi]⟩
                go_wp2
                go_roundw
                case rel => exact ⟨x + 1, by omega, by first | rfl | simp, ⟨by rw [HTM.out, HV.out]; simp only [List.append_nil]; exact HO3.out⟩, HW3⟩
                case measure => simp [intOf]; omega
      · obtain rfl : x = ops.length := by omega
        go_wp2
        go_ret2
        exact ⟨_, rfl, Kd.R_lower HOw.out (below_size HBB.out), below_then HBB.out (below_size HBB.out) HW.out⟩
theorem tegularef47_Check.calls (A0 : Option Addr) (c0 : Nat) (l0 : List S39) (r1 : List S32) (r2 : Int) (w : World) (hr0 : Kd.C k39 w A0 l0.length l0) (hc0 : l0.length ≤ c0) (h : tegularef47_Check.f l0 = some (r1, r2)) :
    Calls Try.prog 21 #[.slice A0 l0.length c0] w fun e w' => ∃ v0_ : Value, e = .returned (.tuple #[v0_, .int .i64 r2]) ∧ Kd.R k32 32 w' w.heap.size (fun _ => True) v0_ r1 ∧ Below w.heap.size w w' := by
  unfold tegularef47_Check.f at h
  split at h
  · rename_i hsz
    have e := Option.some.inj h
    have e1 : (checkQ l0).1 = r1 := by rw [e]
    have e2 : (checkQ l0).2 = r2 := by rw [e]
    have := check_ref A0 c0 l0 w hr0 hc0 hsz
    rw [e1, e2] at this
    exact this
  · cases h
end Go.Proofs.Ytidghmgaaenihaa.Q

/-! part PCheck -/
namespace Go.Proofs.Ytidghmgaaenihaa.Q
open Go.RowKit
set_option linter.unusedVariables false
set_option linter.unusedSimpArgs false

def to32 (f : S33) : S32 := ⟨f.f0, f.f1, f.f2⟩
theorem idx_first {ops : List S60} {p : S60 → Bool} {q : Nat → Bool} (h : ∀ i, i < ops.length → p (opAt ops i) = q i) : idxOf ops p = firstI ops.length q := by
  unfold firstI
  cases hf : (List.range ops.length).find? q with
  | none =>
    have := List.find?_eq_none.1 hf
    refine idxOf_miss (fun o ho => ?_)
    obtain ⟨i, hi, rfl⟩ := mem_opAt ho
    rw [h i hi]
    simpa using this i (List.mem_range.2 hi)
  | some i =>
    have hi := List.mem_range.1 (List.mem_of_find?_eq_some hf)
    rw [List.find?_range_eq_some] at hf
    obtain ⟨h1, _, h3⟩ := hf
    show idxOf ops p = (i : Int)
    refine idxOf_hit (by omega) (by omega) (fun o ho => ?_) (by rw [rd60_opAt hi, h i hi]; exact h1)
    rw [Int.toNat_natCast] at ho
    obtain ⟨j, hj, rfl⟩ := List.mem_iff_getElem.1 ho
    rw [List.length_take] at hj
    rw [List.getElem_take, ← opAt_get (by omega), h j (by omega)]
    simpa using h3 j (by omega)
theorem stale_eq {l : List S39} {s : List S60 × Int} (hs : parseP l = some s) (r : S60) (si : Option Nat) {i : Nat} (hi : i < s.1.length) :
    staleB s.1 (survP s.1 s.1.length) r si (opAt s.1 i) = staleAt s.1 r (match si with | some k => (k : Int) | none => -1) i := by
  have hnd := (ptake_inv l l.length hs).nodup
  have hsq := (parse_tinv hs).seq _ (opAt_mem hi)
  unfold staleB staleAt
  cases h3 : (opAt s.1 i).f3 with
  | false => rfl
  | true =>
    have hf : finalB (survP s.1 s.1.length) (opAt s.1 i) r = finalR s.1 i r := by
      unfold finalB finalR precB
      rw [surv_sv hnd hi h3, Bool.and_assoc]
    rw [hf]
    cases si with
    | none =>
      have e : ((i : Int) == -1) = false := beq_eq_false_iff_ne.2 (by omega)
      simp only [hidesB, hideR, e]
      simp
    | some k =>
      simp only [hidesB, hideR]
      rw [decide_eq_false (show ¬ (k : Int) < 0 by omega), Int.toNat_natCast, Bool.false_or]
      by_cases hik : i = k
      · subst hik
        have e1 : precB (opAt s.1 i) (opAt s.1 i) = false := by
          unfold precB
          rcases hsq with h | ⟨h, _⟩
          · rw [h]; rfl
          · rw [decide_eq_false (show ¬ (opAt s.1 i).f7 < (opAt s.1 i).f6 by omega), Bool.and_false]
        rw [e1]
        simp
      · have e : ((i : Int) == (k : Int)) = false := beq_eq_false_iff_ne.2 (by omega)
        rw [e]
        cases ((opAt s.1 i).f1 == r.f1) <;> cases (finalR s.1 i r) <;> cases (precB (opAt s.1 k) (opAt s.1 i) || decide ((opAt s.1 k).f5 < (opAt s.1 i).f5)) <;> rfl
theorem judge_eq {l : List S39} {s : List S60 × Int} (hs : parseP l = some s) (r : S60) (si : Option Nat) :
    (if (judgeS s.1 (survP s.1 s.1.length) r si).2 = true then some (to32 (judgeS s.1 (survP s.1 s.1.length) r si).1) else none) = staleF s.1 r (match si with | some k => (k : Int) | none => -1) := by
  have e := idx_first (fun i hi => stale_eq hs r si hi)
  have hrg := idxOf_range s.1 (staleB s.1 (survP s.1 s.1.length) r si)
  unfold judgeS staleF
  rw [← e]
  by_cases h : idxOf s.1 (staleB s.1 (survP s.1 s.1.length) r si) < 0
  · rw [if_pos h, if_neg (show ¬ 0 ≤ idxOf s.1 (staleB s.1 (survP s.1 s.1.length) r si) by omega)]; rfl
  · rw [if_neg h]
    simp only [if_true, to32]
    obtain ⟨k, hk⟩ : ∃ k : Nat, idxOf s.1 (staleB s.1 (survP s.1 s.1.length) r si) = k := ⟨(idxOf s.1 (staleB s.1 (survP s.1 s.1.length) r si)).toNat, by omega⟩
    rw [hk, Int.toNat_natCast, rd60_opAt (by omega), if_pos (show (0 : Int) ≤ k by omega)]
theorem fault_eq {l : List S39} {s : List S60 × Int} (hs : parseP l = some s) (i : Nat) : faultQ s.1 i = (faultOf s.1 (survP s.1 s.1.length) (opAt s.1 i)).map to32 := by
  unfold faultQ faultOf
  split
  · unfold faultF judgeB srcI idxOf
    have ej := fun si => judge_eq hs (opAt s.1 i) si
    cases hx : srcIx s.1 (opAt s.1 i).f1 (opAt s.1 i).f2 with
    | none =>
      have hx' : s.1.findIdx? (isSrc (opAt s.1 i).f1 (opAt s.1 i).f2) = none := hx
      rw [hx']
      simp only
      rw [if_pos (by decide)]
      split
      · rw [← ej none]
        split <;> simp [*]
      · rfl
    | some k =>
      have hx' : s.1.findIdx? (isSrc (opAt s.1 i).f1 (opAt s.1 i).f2) = some k := hx
      rw [hx']
      simp only
      rw [if_neg (by omega), Int.toNat_natCast]
      split
      · rfl
      · rw [← ej (some k)]
        split <;> simp [*]
  · rfl
theorem map_range {n : Nat} {f : Nat → Option S33} : (List.range n).filterMap (fun i => (f i).map to32) = ((List.range n).filterMap f).map to32 := by
  rw [List.map_filterMap]
theorem checkQ_eq (l : List S39) : checkQ l = ((checkP l).1.map to32, (checkP l).2) := by
  unfold checkQ checkP
  rw [trace_eq]
  unfold beginP opsP
  cases hs : parseP l with
  | none => rfl
  | some s =>
    simp only
    cases hk : okW s.1 s.1.length with
    | false => rfl
    | true =>
      simp only [if_true, Option.isSome_some]
      rw [filter_range, ← map_range, range_congr (fun i _ => fault_eq hs i)]
end Go.Proofs.Ytidghmgaaenihaa.Q

/-! part Qe32 -/
namespace Go.Proofs.Ytidghmgaaenihaa.Q
open Go.RowKit Go.Proofs.YtidghmgaaenihaaW.PrintWords Go.Proofs.YtidghmgaaenihaaW.PrintLast Go.Proofs.YtidghmgaaenihaaW.PrintMore
attribute [local go_sem] max2_int min2_int max_two min_two max_three min_three max_four min_four
set_option linter.unusedVariables false
set_option linter.unusedSimpArgs false

theorem eqA32 (d : Nat) (w : World) (x0 y0 : Int) (x1 y1 : Int) (x2 y2 : Int) :
    (Op.equalIn (d + 2) 32 (.agg #[.int .i64 x0, .int .i64 x1, .int .i64 x2]) (.agg #[.int .i64 y0, .int .i64 y1, .int .i64 y2])).run Try.prog w = .ok (x0 == y0 && (x1 == y1 && (x2 == y2))) w := by
  refine eqA_of Try.underlying32 (by kernel_rfl) ?_
  refine eqf_cons (by rfl) (by go_simp; rfl) (by go_simp; rfl) (by go_simp) ?_
  refine eqf_cons (by rfl) (by go_simp; rfl) (by go_simp; rfl) (by go_simp) ?_
  exact eqf_last (by rfl) (by go_simp; rfl) (by go_simp; rfl) (by go_simp)
end Go.Proofs.Ytidghmgaaenihaa.Q

/-! part Q3 -/
namespace Go.Proofs.Ytidghmgaaenihaa.Q
open Go.RowKit Go.Proofs.YtidghmgaaenihaaW.PrintWords Go.Proofs.YtidghmgaaenihaaW.PrintLast Go.Proofs.YtidghmgaaenihaaW.PrintMore
attribute [local go_sem] max2_int min2_int max_two min_two max_three min_three max_four min_four
set_option linter.unusedVariables false
set_option linter.unusedSimpArgs false

attribute [local go_sem high] eqA33 eqA32
/-! ### tegulalaw47_DurableCheck: function 3 -/
mutual
def tegulalaw47_DurableCheck.j0 : Nat → List (S33) → List (S32) → Bool → Option (Bool)
  | 0, _, _, _ => none
  | k + 1, x3, x5, x32 => if x32 = true then (some false) else (tegulalaw47_DurableCheck.l0 k x3 x5 0)
def tegulalaw47_DurableCheck.l0 : Nat → List (S33) → List (S32) → Int → Option (Bool)
  | 0, _, _, _ => none
  | k + 1, x3, x5, x7 => if x7 < (x3.length : Int) then (if 0 ≤ x7 then (if x7 < (x5.length : Int) then (if (!(((rd_T33 x3 x7).f0) == ((rd_T32 x5 x7).f0)) || (!(((rd_T33 x3 x7).f1) == ((rd_T32 x5 x7).f1)) || (!(((rd_T33 x3 x7).f2) == ((rd_T32 x5 x7).f2))))) = true then (some false) else (tegulalaw47_DurableCheck.l0 k x3 x5 (wrap64 (x7 + 1)))) else (none)) else (none)) else (some true)
end
def tegulalaw47_DurableCheck.f (k : Nat) (l0 : List (S39)) : Option (Bool) := (tegulalaw47_awake.f).bind fun t220 => (if t220 = true then (if (l0.length : Int) > 60 then (some true) else ((durable_Check.f l0).bind fun bt221 => ((tegularef47_Check.f l0).bind fun bt225 => (if bt221.2 = bt225.2 then (tegulalaw47_DurableCheck.j0 k bt221.1 bt225.1 ((bt221.1.length : Int) != (bt225.1.length : Int))) else (tegulalaw47_DurableCheck.j0 k bt221.1 bt225.1 true))))) else (some false))
theorem tegulalaw47_DurableCheck.mono_l : ∀ k, (∀ y0 y1 y2, LeO (tegulalaw47_DurableCheck.j0 k y0 y1 y2) (tegulalaw47_DurableCheck.j0 (k + 1) y0 y1 y2)) ∧ (∀ y0 y1 y2, LeO (tegulalaw47_DurableCheck.l0 k y0 y1 y2) (tegulalaw47_DurableCheck.l0 (k + 1) y0 y1 y2))
  | 0 => ⟨fun _ _ _ r h => by simp [tegulalaw47_DurableCheck.j0] at h, fun _ _ _ r h => by simp [tegulalaw47_DurableCheck.l0] at h⟩
  | k + 1 => by
    obtain ⟨ih0, ih1⟩ := tegulalaw47_DurableCheck.mono_l k
    refine ⟨?_, ?_⟩
    · intro y0 y1 y2
      unfold tegulalaw47_DurableCheck.j0
      repeat' first
      | (with_reducible exact ih0 _ _ _)
      | (with_reducible exact ih1 _ _ _)
      | (with_reducible exact LeO.refl _)
      | (with_reducible exact LeO.none _)
      | (with_reducible refine LeO.ite ?_ ?_)
      | (with_reducible refine LeO.bind ?_ (fun _ => ?_))
      | exact ih0 _ _ _
      | exact ih1 _ _ _
      | exact LeO.none _
      | refine LeO.ite ?_ ?_
      | refine LeO.bind ?_ (fun _ => ?_)
    · intro y0 y1 y2
      unfold tegulalaw47_DurableCheck.l0
      repeat' first
      | (with_reducible exact ih0 _ _ _)
      | (with_reducible exact ih1 _ _ _)
      | (with_reducible exact LeO.refl _)
      | (with_reducible exact LeO.none _)
      | (with_reducible refine LeO.ite ?_ ?_)
      | (with_reducible refine LeO.bind ?_ (fun _ => ?_))
      | exact ih0 _ _ _
      | exact ih1 _ _ _
      | exact LeO.none _
      | refine LeO.ite ?_ ?_
      | refine LeO.bind ?_ (fun _ => ?_)
theorem tegulalaw47_DurableCheck.mono : ∀ a0 k, LeO (tegulalaw47_DurableCheck.f k a0) (tegulalaw47_DurableCheck.f (k + 1) a0) := by
  intro a0 k
  obtain ⟨ih0, ih1⟩ := tegulalaw47_DurableCheck.mono_l k
  unfold tegulalaw47_DurableCheck.f
  repeat' first
      | (with_reducible exact ih0 _ _ _)
      | (with_reducible exact ih1 _ _ _)
      | (with_reducible exact LeO.refl _)
      | (with_reducible exact LeO.none _)
      | (with_reducible refine LeO.ite ?_ ?_)
      | (with_reducible refine LeO.bind ?_ (fun _ => ?_))
      | exact ih0 _ _ _
      | exact ih1 _ _ _
      | exact LeO.none _
      | refine LeO.ite ?_ ?_
      | refine LeO.bind ?_ (fun _ => ?_)
set_option maxHeartbeats 8000000 in
set_option maxRecDepth 100000 in
theorem tegulalaw47_DurableCheck.calls (k : Nat) (A0 : Option Addr) (c0 : Nat) (l0 : List (S39)) (r : Bool) (w : World) (hr0 : Kd.C k39 w A0 l0.length l0) (hc0 : l0.length ≤ c0) (h : tegulalaw47_DurableCheck.f k l0 = some r) :
    Calls Try.prog 3 #[.slice A0 l0.length c0] w fun e w' => e = .returned (.bool r) ∧ Below w.heap.size w w' := by
  have hu33 := Try.underlying33
  have hu32 := Try.underlying32
  have HR0 := Aside0.mk hr0
  have HC0 := Aside0.mk hc0
  clear hr0 hc0
  have HB := Aside0.mk (Below.refl w.heap.size w)
  have H : ((tegulalaw47_awake.f).bind fun t220 => (if t220 = true then (if (l0.length : Int) > 60 then (some true) else ((durable_Check.f l0).bind fun bt221 => ((tegularef47_Check.f l0).bind fun bt225 => (if bt221.2 = bt225.2 then (tegulalaw47_DurableCheck.j0 k bt221.1 bt225.1 ((bt221.1.length : Int) != (bt225.1.length : Int))) else (tegulalaw47_DurableCheck.j0 k bt221.1 bt225.1 true))))) else (some false))) = some r := h
  clear h
  replace H := Option.bind_eq_some_iff.mp H
  obtain ⟨t220, A20, H⟩ := H
  replace H : (if t220 = true then (if (l0.length : Int) > 60 then (some true) else ((durable_Check.f l0).bind fun bt221 => ((tegularef47_Check.f l0).bind fun bt225 => (if bt221.2 = bt225.2 then (tegulalaw47_DurableCheck.j0 k bt221.1 bt225.1 ((bt221.1.length : Int) != (bt225.1.length : Int))) else (tegulalaw47_DurableCheck.j0 k bt221.1 bt225.1 true))))) else (some false)) = some r := H
  have A2 := Aside0.mk A20
  clear A20
  by_cases c3 : t220 = true
  · subst c3
    have H1 : (if (l0.length : Int) > 60 then (some true) else ((durable_Check.f l0).bind fun bt221 => ((tegularef47_Check.f l0).bind fun bt225 => (if bt221.2 = bt225.2 then (tegulalaw47_DurableCheck.j0 k bt221.1 bt225.1 ((bt221.1.length : Int) != (bt225.1.length : Int))) else (tegulalaw47_DurableCheck.j0 k bt221.1 bt225.1 true))))) = some r := by rw [if_pos rfl] at H; exact H
    clear H
    have H := H1
    clear H1
    by_cases c4 : (l0.length : Int) > 60
    · rw [if_pos c4] at H
      have c4b0 : decide (60 < (l0.length : Int)) = true := decide_eq_true c4
      have c4b1 : decide (60 < l0.length) = true := decide_eq_true (by omega)
      clear c4
      obtain rfl := Option.some.inj H
      go_enter Try.func3, Try.ntmps3
      go_wp2_with (first | (go_at_call 19; (with_reducible refine (tegulalaw47_awake.calls  true _ A2.out).mono ?_); rintro e w5 ⟨rfl, hb⟩; have n0_ := Aside0.mk (below_step (by repeat (first | (with_reducible first | exact HB.out | apply below_alloc | apply pw_below_drewN | apply below_drew1) | exact HB.out)) hb); clear HB; have HB := n0_; clear n0_; (try clear hb); (try clear hb2); (try clear hk); (try clear hi)))
      repeat (go_quiet (first | (go_at_call 19; (with_reducible refine (tegulalaw47_awake.calls  true _ A2.out).mono ?_); rintro e w5 ⟨rfl, hb⟩; have n0_ := Aside0.mk (below_step (by repeat (first | (with_reducible first | exact HB.out | apply below_alloc | apply pw_below_drewN | apply below_drew1) | exact HB.out)) hb); clear HB; have HB := n0_; clear n0_; (try clear hb); (try clear hb2); (try clear hk); (try clear hi))); try go_wp2_with (first | (go_at_call 19; (with_reducible refine (tegulalaw47_awake.calls  true _ A2.out).mono ?_); rintro e w5 ⟨rfl, hb⟩; have n0_ := Aside0.mk (below_step (by repeat (first | (with_reducible first | exact HB.out | apply below_alloc | apply pw_below_drewN | apply below_drew1) | exact HB.out)) hb); clear HB; have HB := n0_; clear n0_; (try clear hb); (try clear hb2); (try clear hk); (try clear hi))))
      go_ret
      exact ⟨by first | rfl | (simp [errW_none, errW_some] <;> rfl) | (simp [*, errW_none, errW_some] <;> rfl), by repeat (first | (with_reducible first | exact HB.out | apply below_alloc | apply pw_below_drewN | apply below_drew1) | exact HB.out)⟩
    · rw [if_neg c4] at H
      have c4b0 : decide (60 < (l0.length : Int)) = false := decide_eq_false c4
      have c4b1 : decide (60 < l0.length) = false := decide_eq_false (by omega)
      clear c4
      replace H := Option.bind_eq_some_iff.mp H
      obtain ⟨⟨t221, t222⟩, A60, H⟩ := H
      replace H : ((tegularef47_Check.f l0).bind fun bt225 => (if t222 = bt225.2 then (tegulalaw47_DurableCheck.j0 k t221 bt225.1 ((t221.length : Int) != (bt225.1.length : Int))) else (tegulalaw47_DurableCheck.j0 k t221 bt225.1 true))) = some r := H
      have A6 := Aside0.mk A60
      clear A60
      replace H := Option.bind_eq_some_iff.mp H
      obtain ⟨⟨t225, t226⟩, A70, H⟩ := H
      replace H : (if t222 = t226 then (tegulalaw47_DurableCheck.j0 k t221 t225 ((t221.length : Int) != (t225.length : Int))) else (tegulalaw47_DurableCheck.j0 k t221 t225 true)) = some r := H
      have A7 := Aside0.mk A70
      clear A70
      have HC8 := Aside0.mk H
      clear H
      go_enter Try.func3, Try.ntmps3
      go_upto_region 7 with (first | (go_at_call 19; (with_reducible refine (tegulalaw47_awake.calls  true _ A2.out).mono ?_); rintro e w9 ⟨rfl, hb⟩; have n0_ := Aside0.mk (below_step (by repeat (first | (with_reducible first | exact HB.out | apply below_alloc | apply pw_below_drewN | apply below_drew1) | exact HB.out)) hb); clear HB; have HB := n0_; clear n0_; (try clear hb); (try clear hb2); (try clear hk); (try clear hi)) | (go_at_call 20; (with_reducible refine (durable_Check.calls _ _ l0 t221 t222 _ ?side1 ?side2 A6.out).mono ?_); (case side1 => repeat (first | exact (Kd.C_below HR0.out HB.out) | (with_reducible refine Kd.C_alloc ?_ _) | (with_reducible refine Kd.C_drewN ?_ _) | (with_reducible refine Kd.C_drew ?_))); (case side2 => exact HC0.out); rintro e w10 ⟨v223, rfl, ho0, hb⟩; have n0_ := Aside0.mk (Kd.R_lower ho0 (below_size (by repeat (first | (with_reducible first | exact HB.out | apply below_alloc | apply pw_below_drewN | apply below_drew1) | exact HB.out)))); have n1_ := Aside0.mk (below_step (by repeat (first | (with_reducible first | exact HB.out | apply below_alloc | apply pw_below_drewN | apply below_drew1) | exact HB.out)) hb); clear HB; have HO224 := n0_; have HB := n1_; clear n0_ n1_; (try clear hb); (try clear hb2); (try clear hk); (try clear hi); (try clear ho0)) | (go_at_call 21; (with_reducible refine (tegularef47_Check.calls _ _ l0 t225 t226 _ ?side1 ?side2 A7.out).mono ?_); (case side1 => repeat (first | exact (Kd.C_below HR0.out HB.out) | (with_reducible refine Kd.C_alloc ?_ _) | (with_reducible refine Kd.C_drewN ?_ _) | (with_reducible refine Kd.C_drew ?_))); (case side2 => exact HC0.out); rintro e w11 ⟨v227, rfl, ho0, hb⟩; have n0_ := Aside0.mk (Kd.R_below (by (with_reducible repeat (first | apply Kd.R_alloc | apply Kd.R_drewN | apply Kd.R_drew)); exact HO224.out) hb); have n1_ := Aside0.mk (Kd.R_lower ho0 (below_size (by repeat (first | (with_reducible first | exact HB.out | apply below_alloc | apply pw_below_drewN | apply below_drew1) | exact HB.out)))); have n2_ := Aside0.mk (below_step (by repeat (first | (with_reducible first | exact HB.out | apply below_alloc | apply pw_below_drewN | apply below_drew1) | exact HB.out)) hb); clear HO224; clear HB; have HO224 := n0_; have HO228 := n1_; have HB := n2_; clear n0_ n1_ n2_; (try clear hb); (try clear hb2); (try clear hk); (try clear hi); (try clear ho0)))
      repeat (go_quiet (first | (go_at_call 19; (with_reducible refine (tegulalaw47_awake.calls  true _ A2.out).mono ?_); rintro e w9 ⟨rfl, hb⟩; have n0_ := Aside0.mk (below_step (by repeat (first | (with_reducible first | exact HB.out | apply below_alloc | apply pw_below_drewN | apply below_drew1) | exact HB.out)) hb); clear HB; have HB := n0_; clear n0_; (try clear hb); (try clear hb2); (try clear hk); (try clear hi)) | (go_at_call 20; (with_reducible refine (durable_Check.calls _ _ l0 t221 t222 _ ?side1 ?side2 A6.out).mono ?_); (case side1 => repeat (first | exact (Kd.C_below HR0.out HB.out) | (with_reducible refine Kd.C_alloc ?_ _) | (with_reducible refine Kd.C_drewN ?_ _) | (with_reducible refine Kd.C_drew ?_))); (case side2 => exact HC0.out); rintro e w10 ⟨v223, rfl, ho0, hb⟩; have n0_ := Aside0.mk (Kd.R_lower ho0 (below_size (by repeat (first | (with_reducible first | exact HB.out | apply below_alloc | apply pw_below_drewN | apply below_drew1) | exact HB.out)))); have n1_ := Aside0.mk (below_step (by repeat (first | (with_reducible first | exact HB.out | apply below_alloc | apply pw_below_drewN | apply below_drew1) | exact HB.out)) hb); clear HB; have HO224 := n0_; have HB := n1_; clear n0_ n1_; (try clear hb); (try clear hb2); (try clear hk); (try clear hi); (try clear ho0)) | (go_at_call 21; (with_reducible refine (tegularef47_Check.calls _ _ l0 t225 t226 _ ?side1 ?side2 A7.out).mono ?_); (case side1 => repeat (first | exact (Kd.C_below HR0.out HB.out) | (with_reducible refine Kd.C_alloc ?_ _) | (with_reducible refine Kd.C_drewN ?_ _) | (with_reducible refine Kd.C_drew ?_))); (case side2 => exact HC0.out); rintro e w11 ⟨v227, rfl, ho0, hb⟩; have n0_ := Aside0.mk (Kd.R_below (by (with_reducible repeat (first | apply Kd.R_alloc | apply Kd.R_drewN | apply Kd.R_drew)); exact HO224.out) hb); have n1_ := Aside0.mk (Kd.R_lower ho0 (below_size (by repeat (first | (with_reducible first | exact HB.out | apply below_alloc | apply pw_below_drewN | apply below_drew1) | exact HB.out)))); have n2_ := Aside0.mk (below_step (by repeat (first | (with_reducible first | exact HB.out | apply below_alloc | apply pw_below_drewN | apply below_drew1) | exact HB.out)) hb); clear HO224; clear HB; have HO224 := n0_; have HO228 := n1_; have HB := n2_; clear n0_ n1_ n2_; (try clear hb); (try clear hb2); (try clear hk); (try clear hi); (try clear ho0))); go_upto_region 7 with (first | (go_at_call 19; (with_reducible refine (tegulalaw47_awake.calls  true _ A2.out).mono ?_); rintro e w9 ⟨rfl, hb⟩; have n0_ := Aside0.mk (below_step (by repeat (first | (with_reducible first | exact HB.out | apply below_alloc | apply pw_below_drewN | apply below_drew1) | exact HB.out)) hb); clear HB; have HB := n0_; clear n0_; (try clear hb); (try clear hb2); (try clear hk); (try clear hi)) | (go_at_call 20; (with_reducible refine (durable_Check.calls _ _ l0 t221 t222 _ ?side1 ?side2 A6.out).mono ?_); (case side1 => repeat (first | exact (Kd.C_below HR0.out HB.out) | (with_reducible refine Kd.C_alloc ?_ _) | (with_reducible refine Kd.C_drewN ?_ _) | (with_reducible refine Kd.C_drew ?_))); (case side2 => exact HC0.out); rintro e w10 ⟨v223, rfl, ho0, hb⟩; have n0_ := Aside0.mk (Kd.R_lower ho0 (below_size (by repeat (first | (with_reducible first | exact HB.out | apply below_alloc | apply pw_below_drewN | apply below_drew1) | exact HB.out)))); have n1_ := Aside0.mk (below_step (by repeat (first | (with_reducible first | exact HB.out | apply below_alloc | apply pw_below_drewN | apply below_drew1) | exact HB.out)) hb); clear HB; have HO224 := n0_; have HB := n1_; clear n0_ n1_; (try clear hb); (try clear hb2); (try clear hk); (try clear hi); (try clear ho0)) | (go_at_call 21; (with_reducible refine (tegularef47_Check.calls _ _ l0 t225 t226 _ ?side1 ?side2 A7.out).mono ?_); (case side1 => repeat (first | exact (Kd.C_below HR0.out HB.out) | (with_reducible refine Kd.C_alloc ?_ _) | (with_reducible refine Kd.C_drewN ?_ _) | (with_reducible refine Kd.C_drew ?_))); (case side2 => exact HC0.out); rintro e w11 ⟨v227, rfl, ho0, hb⟩; have n0_ := Aside0.mk (Kd.R_below (by (with_reducible repeat (first | apply Kd.R_alloc | apply Kd.R_drewN | apply Kd.R_drew)); exact HO224.out) hb); have n1_ := Aside0.mk (Kd.R_lower ho0 (below_size (by repeat (first | (with_reducible first | exact HB.out | apply below_alloc | apply pw_below_drewN | apply below_drew1) | exact HB.out)))); have n2_ := Aside0.mk (below_step (by repeat (first | (with_reducible first | exact HB.out | apply below_alloc | apply pw_below_drewN | apply below_drew1) | exact HB.out)) hb); clear HO224; clear HB; have HO224 := n0_; have HO228 := n1_; have HB := n2_; clear n0_ n1_ n2_; (try clear hb); (try clear hb2); (try clear hk); (try clear hi); (try clear ho0))))
      (try simp only [Act.put, List.setIfInBounds_toArray, List.set_cons_zero, List.set_cons_succ])
      go_cut [32] (fun v32 wc => ∃ (kq : Nat) (x32_7 : Bool), v32 = .bool x32_7 ∧ Aside0 (tegulalaw47_DurableCheck.j0 kq t221 t225 x32_7 = some r) ∧ Aside0 (kq ≤ k) ∧ Aside0 (Kd.R k33 33 wc w.heap.size (fun _ => True) v223 t221) ∧ Aside0 (Kd.R k32 32 wc w.heap.size (fun _ => True) v227 t225) ∧ Aside0 (Below w.heap.size w wc))
      case first =>
        have H := HC8.out
        clear HC8
        by_cases c12 : t222 = t226
        · rw [if_pos c12] at H
          have c12b0 : (t222 == t226) = true := beq_iff_eq.mpr c12
          have c12b1 : (t222 != t226) = false := bne_eq_false_iff_eq.mpr c12
          clear c12
          (first | rw [c12b0] | (simp only [i64_w, i32_w]; rw [c12b0]) | skip)
          have H' := Aside0.mk H
          clear H
          obtain ⟨Ao13, co13, eo13⟩ := Kd.R_slice HO224.out
          subst eo13
          obtain ⟨Ao14, co14, eo14⟩ := Kd.R_slice HO228.out
          subst eo14
          go_wp2
          repeat (go_quiet (fail); try go_wp2)
          go_meet
          case rel => exact ⟨_, (((t221.length : Int) != (t225.length : Int))), (by first | rfl | (simp; done) | (simp [*]; done)), H', ⟨by first | omega | exact Nat.le_refl _⟩, ⟨by (with_reducible repeat (first | apply Kd.R_alloc | apply Kd.R_drewN | apply Kd.R_drew)); exact HO224.out⟩, ⟨by (with_reducible repeat (first | apply Kd.R_alloc | apply Kd.R_drewN | apply Kd.R_drew)); exact HO228.out⟩, ⟨by repeat (first | (with_reducible first | exact HB.out | apply below_alloc | apply pw_below_drewN | apply below_drew1) | exact HB.out)⟩⟩
        · rw [if_neg c12] at H
          have c12b0 : (t222 == t226) = false := beq_eq_false_iff_ne.mpr c12
          have c12b1 : (t222 != t226) = true := bne_iff_ne.mpr c12
          (first | rw [c12b0] | (simp only [i64_w, i32_w]; rw [c12b0]) | skip)
          have H' := Aside0.mk H
          clear H
          go_wp2
          repeat (go_quiet (fail); try go_wp2)
          go_meet
          case rel => exact ⟨_, (true), (by first | rfl | (simp; done) | (simp [*]; done)), H', ⟨by first | omega | exact Nat.le_refl _⟩, ⟨by (with_reducible repeat (first | apply Kd.R_alloc | apply Kd.R_drewN | apply Kd.R_drew)); exact HO224.out⟩, ⟨by (with_reducible repeat (first | apply Kd.R_alloc | apply Kd.R_drewN | apply Kd.R_drew)); exact HO228.out⟩, ⟨by repeat (first | (with_reducible first | exact HB.out | apply below_alloc | apply pw_below_drewN | apply below_drew1) | exact HB.out)⟩⟩
      case rest =>
        clear HC8
        try clear c1
        try clear p2
        try clear c3
        try clear c4
        try clear c4b0
        try clear c4b1
        try clear c12
        try clear c12b0
        try clear c12b1
        obtain ⟨kq, x32_7, rfl, HA, HJ7, HO_3, HO_5, HB⟩ := hcut
        cases kq with
        | zero => exact absurd HA.out (by simp [tegulalaw47_DurableCheck.j0])
        | succ kj7 =>
          have H := HA.out
          clear HA
          simp only [tegulalaw47_DurableCheck.j0] at H
          by_cases c15 : x32_7 = true
          · subst c15
            have H1 : (some false) = some r := by rw [if_pos rfl] at H; exact H
            clear H
            have H := H1
            clear H1
            obtain rfl := Option.some.inj H
            go_wp2
            repeat (go_quiet (fail); try go_wp2)
            go_ret
            exact ⟨by first | rfl | (simp [errW_none, errW_some] <;> rfl) | (simp [*, errW_none, errW_some] <;> rfl), by repeat (first | (with_reducible first | exact HB.out | apply below_alloc | apply pw_below_drewN | apply below_drew1) | exact HB.out)⟩
          · replace c15 := Bool.eq_false_iff.mpr c15
            subst c15
            have H1 : (tegulalaw47_DurableCheck.l0 kj7 t221 t225 0) = some r := by rw [if_neg (show ¬ (false = true) by decide)] at H; exact H
            clear H
            have H := H1
            clear H1
            have H' := Aside0.mk H
            clear H
            go_wp2
            repeat (go_quiet (fail); try go_wp2)
            go_loopg [7] kj7 (fun kq v7 w' => ∃ (x7_2 : Int), v7 = .int .i64 x7_2 ∧ Aside0 (tegulalaw47_DurableCheck.l0 kq t221 t225 x7_2 = some r) ∧ Aside0 (kq ≤ kj7) ∧ Aside0 (Kd.R k33 33 w' w.heap.size (fun _ => True) v223 t221) ∧ Aside0 (Kd.R k32 32 w' w.heap.size (fun _ => True) v227 t225) ∧ Aside0 (Below w.heap.size w w'))
            case atStart => exact ⟨(0), (by first | rfl | (simp; done) | (simp [*]; done)), H', ⟨Nat.le_refl _⟩, ⟨by (with_reducible repeat (first | apply Kd.R_alloc | apply Kd.R_drewN | apply Kd.R_drew)); exact HO_3.out⟩, ⟨by (with_reducible repeat (first | apply Kd.R_alloc | apply Kd.R_drewN | apply Kd.R_drew)); exact HO_5.out⟩, ⟨by repeat (first | (with_reducible first | exact HB.out | apply below_alloc | apply pw_below_drewN | apply below_drew1) | exact HB.out)⟩⟩
            case round =>
              clear H'
              try clear c1
              try clear p2
              try clear c3
              try clear c4
              try clear c4b0
              try clear c4b1
              try clear c12
              try clear c12b0
              try clear c12b1
              try clear c15
              try clear p2
              obtain ⟨x7_2, rfl, HA, HK2, HO_3, HO_5, HB⟩ := hrel
              cases gk with
              | zero => exact absurd HA.out (by simp [tegulalaw47_DurableCheck.l0])
              | succ k2 =>
                have H := HA.out
                clear HA
                simp only [tegulalaw47_DurableCheck.l0] at H
                by_cases c16 : x7_2 < (t221.length : Int)
                · rw [if_pos c16] at H
                  have c16b0 : decide (x7_2 < (t221.length : Int)) = true := decide_eq_true c16
                  clear c16
                  by_cases c17 : 0 ≤ x7_2
                  · rw [if_pos c17] at H
                    have c17b0 : decide (0 ≤ x7_2) = true := decide_eq_true c17
                    clear c17
                    by_cases c18 : x7_2 < (t225.length : Int)
                    · rw [if_pos c18] at H
                      have c18b0 : decide (x7_2 < (t225.length : Int)) = true := decide_eq_true c18
                      clear c18
                      by_cases c19 : (!(((rd_T33 t221 x7_2).f0) == ((rd_T32 t225 x7_2).f0)) || (!(((rd_T33 t221 x7_2).f1) == ((rd_T32 t225 x7_2).f1)) || (!(((rd_T33 t221 x7_2).f2) == ((rd_T32 t225 x7_2).f2))))) = true
                      · rw [if_pos c19] at H
                        have c19b0 : (!(((rd_T33 t221 x7_2).f0) == ((rd_T32 t225 x7_2).f0)) || (!(((rd_T33 t221 x7_2).f1) == ((rd_T32 t225 x7_2).f1)) || (!(((rd_T33 t221 x7_2).f2) == ((rd_T32 t225 x7_2).f2))))) = true := c19
                        clear c19
                        obtain rfl := Option.some.inj H
                        obtain ⟨Ao20, co20, eo20⟩ := Kd.R_slice HO_3.out
                        subst eo20
                        have p229 : 0 ≤ (x7_2 : Int) := of_decide_eq_true (by first | (with_reducible assumption) | assumption)
                        have q229 : x7_2 < (t221.length : Int) := of_decide_eq_true (by first | (with_reducible assumption) | assumption)
                        obtain ⟨ad229, e229, hx229_0, hx229_1, hx229_2⟩ := at_T33 (Kd.R_reads' HO_3.out).2.2 x7_2 p229 q229
                        cases e229
                        replace p229 := eq_true p229
                        replace q229 := eq_true q229
                        obtain ⟨Ao21, co21, eo21⟩ := Kd.R_slice HO_5.out
                        subst eo21
                        have p230 : 0 ≤ (x7_2 : Int) := of_decide_eq_true (by first | (with_reducible assumption) | assumption)
                        have q230 : x7_2 < (t225.length : Int) := of_decide_eq_true (by first | (with_reducible assumption) | assumption)
                        obtain ⟨ad230, e230, hx230_0, hx230_1, hx230_2⟩ := at_T32 (Kd.R_reads' HO_5.out).2.2 x7_2 p230 q230
                        cases e230
                        replace p230 := eq_true p230
                        replace q230 := eq_true q230
                        go_wp2
                        repeat (go_quiet (fail); try go_wp2)
                        go_ret
                        exact ⟨by first | rfl | (simp [errW_none, errW_some] <;> rfl) | (simp [*, errW_none, errW_some] <;> rfl), by repeat (first | (with_reducible first | exact HB.out | apply below_alloc | apply pw_below_drewN | apply below_drew1) | exact HB.out)⟩
                      · rw [if_neg c19] at H
                        have c19b0 : (!(((rd_T33 t221 x7_2).f0) == ((rd_T32 t225 x7_2).f0)) || (!(((rd_T33 t221 x7_2).f1) == ((rd_T32 t225 x7_2).f1)) || (!(((rd_T33 t221 x7_2).f2) == ((rd_T32 t225 x7_2).f2))))) = false := by simpa using c19
                        clear c19
                        have H' := Aside0.mk H
                        clear H
                        obtain ⟨Ao22, co22, eo22⟩ := Kd.R_slice HO_3.out
                        subst eo22
                        have p229 : 0 ≤ (x7_2 : Int) := of_decide_eq_true (by first | (with_reducible assumption) | assumption)
                        have q229 : x7_2 < (t221.length : Int) := of_decide_eq_true (by first | (with_reducible assumption) | assumption)
                        obtain ⟨ad229, e229, hx229_0, hx229_1, hx229_2⟩ := at_T33 (Kd.R_reads' HO_3.out).2.2 x7_2 p229 q229
                        cases e229
                        replace p229 := eq_true p229
                        replace q229 := eq_true q229
                        obtain ⟨Ao23, co23, eo23⟩ := Kd.R_slice HO_5.out
                        subst eo23
                        have p230 : 0 ≤ (x7_2 : Int) := of_decide_eq_true (by first | (with_reducible assumption) | assumption)
                        have q230 : x7_2 < (t225.length : Int) := of_decide_eq_true (by first | (with_reducible assumption) | assumption)
                        obtain ⟨ad230, e230, hx230_0, hx230_1, hx230_2⟩ := at_T32 (Kd.R_reads' HO_5.out).2.2 x7_2 p230 q230
                        cases e230
                        replace p230 := eq_true p230
                        replace q230 := eq_true q230
                        go_wp2
                        repeat (go_quiet (fail); try go_wp2)
                        go_roundg k2
                        case measure => have := HJ7.out; have := HK2.out; omega
                        case rel => exact ⟨(wrap64 (x7_2 + 1)), (by first | rfl | (simp; done) | (simp [*]; done)), H', ⟨by have := HJ7.out; have := HK2.out; omega⟩, ⟨by (with_reducible repeat (first | apply Kd.R_alloc | apply Kd.R_drewN | apply Kd.R_drew)); exact HO_3.out⟩, ⟨by (with_reducible repeat (first | apply Kd.R_alloc | apply Kd.R_drewN | apply Kd.R_drew)); exact HO_5.out⟩, ⟨by repeat (first | (with_reducible first | exact HB.out | apply below_alloc | apply pw_below_drewN | apply below_drew1) | exact HB.out)⟩⟩
                    · rw [if_neg c18] at H
                      exact absurd H (by simp)
                  · rw [if_neg c17] at H
                    exact absurd H (by simp)
                · rw [if_neg c16] at H
                  have c16b0 : decide (x7_2 < (t221.length : Int)) = false := decide_eq_false c16
                  clear c16
                  obtain rfl := Option.some.inj H
                  obtain ⟨Ao24, co24, eo24⟩ := Kd.R_slice HO_3.out
                  subst eo24
                  go_wp2
                  repeat (go_quiet (fail); try go_wp2)
                  go_ret
                  exact ⟨by first | rfl | (simp [errW_none, errW_some] <;> rfl) | (simp [*, errW_none, errW_some] <;> rfl), by repeat (first | (with_reducible first | exact HB.out | apply below_alloc | apply pw_below_drewN | apply below_drew1) | exact HB.out)⟩
  · replace c3 := Bool.eq_false_iff.mpr c3
    subst c3
    have H1 : (some false) = some r := by rw [if_neg (show ¬ (false = true) by decide)] at H; exact H
    clear H
    have H := H1
    clear H1
    obtain rfl := Option.some.inj H
    go_enter Try.func3, Try.ntmps3
    go_wp2_with (first | (go_at_call 19; (with_reducible refine (tegulalaw47_awake.calls  false _ A2.out).mono ?_); rintro e w25 ⟨rfl, hb⟩; have n0_ := Aside0.mk (below_step (by repeat (first | (with_reducible first | exact HB.out | apply below_alloc | apply pw_below_drewN | apply below_drew1) | exact HB.out)) hb); clear HB; have HB := n0_; clear n0_; (try clear hb); (try clear hb2); (try clear hk); (try clear hi)))
    repeat (go_quiet (first | (go_at_call 19; (with_reducible refine (tegulalaw47_awake.calls  false _ A2.out).mono ?_); rintro e w25 ⟨rfl, hb⟩; have n0_ := Aside0.mk (below_step (by repeat (first | (with_reducible first | exact HB.out | apply below_alloc | apply pw_below_drewN | apply below_drew1) | exact HB.out)) hb); clear HB; have HB := n0_; clear n0_; (try clear hb); (try clear hb2); (try clear hk); (try clear hi))); try go_wp2_with (first | (go_at_call 19; (with_reducible refine (tegulalaw47_awake.calls  false _ A2.out).mono ?_); rintro e w25 ⟨rfl, hb⟩; have n0_ := Aside0.mk (below_step (by repeat (first | (with_reducible first | exact HB.out | apply below_alloc | apply pw_below_drewN | apply below_drew1) | exact HB.out)) hb); clear HB; have HB := n0_; clear n0_; (try clear hb); (try clear hb2); (try clear hk); (try clear hi))))
    go_ret
    exact ⟨by first | rfl | (simp [errW_none, errW_some] <;> rfl) | (simp [*, errW_none, errW_some] <;> rfl), by repeat (first | (with_reducible first | exact HB.out | apply below_alloc | apply pw_below_drewN | apply below_drew1) | exact HB.out)⟩

end Go.Proofs.Ytidghmgaaenihaa.Q

/-! part PLaw3 -/
namespace Go.Proofs.Ytidghmgaaenihaa.Q
open Go.RowKit Go.Proofs.YtidghmgaaenihaaW.PrintWords Go.Proofs.YtidghmgaaenihaaW.PrintLast Go.Proofs.YtidghmgaaenihaaW.PrintMore
set_option linter.unusedVariables false
set_option linter.unusedSimpArgs false
theorem awake47_true3 : tegulalaw47_awake.f = some true := by rfl
theorem rd32_to (a : List S33) (x : Nat) (hx : x < a.length) : rd_T32 (a.map to32) (x : Int) = to32 (rd_T33 a (x : Int)) := by
  simp [rd_T32, rd_T33, List.getD_eq_getElem?_getD, hx]
theorem law3_l0 (a : List S33) (ha : a.length ≤ 1000000) : ∀ d x, a.length - x = d → x ≤ a.length → tegulalaw47_DurableCheck.l0 (d + 1) a (a.map to32) (x : Nat) = some true
  | 0, x, hd, hx => by
    obtain rfl : x = a.length := by omega
    rw [tegulalaw47_DurableCheck.l0, if_neg (by omega)]
  | d + 1, x, hd, hx => by
    rw [tegulalaw47_DurableCheck.l0, if_pos (by omega), if_pos (by omega), if_pos (by rw [List.length_map]; omega), rd32_to a x (by omega), if_neg (by simp [to32]), wrap_succ (by omega) (by omega)]
    exact law3_l0 a ha d (x + 1) (by omega) (by omega)
theorem check_len (l : List S39) (hl : l.length ≤ 60) : (checkP l).1.length ≤ 60 := by
  have e : (checkQ l).1.length = (checkP l).1.length := by rw [checkQ_eq]; simp
  rw [← e]
  unfold checkQ
  split
  · exact Nat.le_trans (range_map_len _ _) (Nat.le_trans (opsP_len l) hl)
  · exact Nat.zero_le _
theorem law3_pure (l : List S39) : ∃ k, tegulalaw47_DurableCheck.f k l = some true := by
  by_cases hl : l.length ≤ 60
  · have h1 : durable_Check.f l = some (checkP l) := by rw [durable_Check.f, if_pos (by omega)]
    have h2 : tegularef47_Check.f l = some ((checkP l).1.map to32, (checkP l).2) := by rw [tegularef47_Check.f, if_pos (by omega), checkQ_eq]
    refine ⟨(checkP l).1.length + 2, ?_⟩
    rw [tegulalaw47_DurableCheck.f, awake47_true3, Option.bind_some, if_pos rfl, if_neg (by omega), h1, Option.bind_some, h2, Option.bind_some]
    simp only [if_true, List.length_map, bne_self_eq_false]
    rw [tegulalaw47_DurableCheck.j0, if_neg (by decide)]
    exact law3_l0 _ (by have := check_len l hl; omega) _ 0 rfl (by omega)
  · exact ⟨0, by rw [tegulalaw47_DurableCheck.f, awake47_true3, Option.bind_some, if_pos rfl, if_pos (by omega)]⟩
theorem law3_walk (A : Option Addr) (c : Nat) (l : List S39) (w : World) (hr : Kd.C k39 w A l.length l) (hc : l.length ≤ c) :
    Calls Try.prog 3 #[.slice A l.length c] w fun e w' => e = .returned (.bool true) ∧ Below w.heap.size w w' := by
  obtain ⟨k, hk⟩ := law3_pure l
  exact tegulalaw47_DurableCheck.calls k A c l true w hr hc hk
end Go.Proofs.Ytidghmgaaenihaa.Q

/-! part HOpen -/
namespace Go.Proofs.Ytidghmgaaenihaa.Q
open Go.RowKit Go.Proofs.YtidghmgaaenihaaW.PrintWords Go.Proofs.YtidghmgaaenihaaW.PrintLast Go.Proofs.YtidghmgaaenihaaW.PrintMore
open Go.ChangeShapes Go.WideShapes Go.Deep
set_option linter.unusedVariables false
theorem cellsOf39 : Try.prog.cellsOf 39 = 6 := by kernel_rfl
theorem cellsOf3 : Try.prog.cellsOf 3 = 1 := by kernel_rfl
theorem cellsOf4 : Try.prog.cellsOf 4 = 1 := by kernel_rfl
instance : Inhabited S39 := ⟨⟨0, 0, false, 0, 0, false⟩⟩
theorem take1 {cs : List Value} {j : Nat} (h : j < cs.length) : (cs.drop j).take 1 = [cs[j]] := by
  rw [List.drop_eq_getElem_cons h]; rfl
theorem one39 (fs : Array Field) (h : Try.prog.underlying 39 = some (.struct fs)) : oneCellFields Try.prog fs = true := by
  rw [Try.underlying39] at h
  cases h
  kernel_rfl
set_option maxRecDepth 100000 in
theorem event_cells {H : Type} {enc : TypeId × Value → H} {w : World} {base : Nat} {spare : Nat → Bool} {held : Bool} {fuel : Nat} {cs : List Value} {x : DataW H × List MemPlace}
    (h : DataW.trod enc Try.prog w base spare held fuel 39 cs = some x) : ∃ e : S39, cs = [.int .i64 e.f0, .int .i64 e.f1, .bool e.f2, .int .i64 e.f3, .int .i64 e.f4, .bool e.f5] := by
  obtain ⟨ys, n, _, _, hlen, hyl, hf⟩ := DataW.trod_struct Try.underlying39 h
  rw [cellsOf39] at hlen
  match cs, hlen with
  | [c0, c1, c2, c3, c4, c5], _ =>
    match ys, hyl with
    | [y0, y1, y2, y3, y4, y5], _ =>
      have hone := hone_of (one39 _ Try.underlying39)
      have g0 := hf 0 _ rfl
      obtain ⟨o0, z0⟩ := hone 0 _ rfl
      rw [o0, z0] at g0
      obtain ⟨n0, e0, -, -⟩ := DataW.trod_int Try.underlying3 (show DataW.trod enc Try.prog w base spare held n 3 [c0] = some y0 from g0)
      have g1 := hf 1 _ rfl
      obtain ⟨o1, z1⟩ := hone 1 _ rfl
      rw [o1, z1] at g1
      obtain ⟨n1, e1, -, -⟩ := DataW.trod_int Try.underlying3 (show DataW.trod enc Try.prog w base spare held n 3 [c1] = some y1 from g1)
      have g2 := hf 2 _ rfl
      obtain ⟨o2, z2⟩ := hone 2 _ rfl
      rw [o2, z2] at g2
      obtain ⟨n2, e2, -⟩ := DataW.trod_bool Try.underlying4 (show DataW.trod enc Try.prog w base spare held n 4 [c2] = some y2 from g2)
      have g3 := hf 3 _ rfl
      obtain ⟨o3, z3⟩ := hone 3 _ rfl
      rw [o3, z3] at g3
      obtain ⟨n3, e3, -, -⟩ := DataW.trod_int Try.underlying3 (show DataW.trod enc Try.prog w base spare held n 3 [c3] = some y3 from g3)
      have g4 := hf 4 _ rfl
      obtain ⟨o4, z4⟩ := hone 4 _ rfl
      rw [o4, z4] at g4
      obtain ⟨n4, e4, -, -⟩ := DataW.trod_int Try.underlying3 (show DataW.trod enc Try.prog w base spare held n 3 [c4] = some y4 from g4)
      have g5 := hf 5 _ rfl
      obtain ⟨o5, z5⟩ := hone 5 _ rfl
      rw [o5, z5] at g5
      obtain ⟨n5, e5, -⟩ := DataW.trod_bool Try.underlying4 (show DataW.trod enc Try.prog w base spare held n 4 [c5] = some y5 from g5)
      refine ⟨⟨n0, n1, n2, n3, n4, n5⟩, ?_⟩
      simp only [List.cons.injEq, and_true] at e0 e1 e2 e3 e4 e5
      rw [e0, e1, e2, e3, e4, e5]
theorem open_events {H : Type} {enc : TypeId × Value → H} {w : World} {base : Nat} {spare : Nat → Bool} {held : Bool} {fuel : Nat} {A : Option Addr} {len cap : Nat} {x : DataW H × List MemPlace}
    (h : DataW.trod enc Try.prog w base spare held fuel 22 [.slice A len cap] = some x) : ∃ l : List S39, l.length = len ∧ len ≤ cap ∧ Kd.C k39 w A len l := by
  rcases open_slice Try.underlying22 h with ⟨hcs, _⟩ | ⟨a, len', cap', m, n, D, Pl, hcs, hb, hl, hm, hmm, hx, hi⟩
  · simp only [List.cons.injEq, Value.slice.injEq, and_true] at hcs
    obtain ⟨rfl, rfl, rfl⟩ := hcs
    exact ⟨[], rfl, Nat.le_refl _, rfl, by decide, fun h => absurd h (by decide)⟩
  · simp only [List.cons.injEq, Value.slice.injEq, and_true] at hcs
    obtain ⟨rfl, rfl, rfl⟩ := hcs
    rw [cellsOf39] at hi
    have each : ∀ i, i < len → ∃ e : S39, ∀ j u, [Value.int .i64 e.f0, .int .i64 e.f1, .bool e.f2, .int .i64 e.f3, .int .i64 e.f4, .bool e.f5][j]? = some u → w.cell? (a.add (i * 6 + j)) = some u := by
      intro i hil
      have him : i < m := by rw [hmm]; split <;> omega
      obtain ⟨cs', hc, ht⟩ := hi i him
      obtain ⟨e, rfl⟩ := event_cells ht
      obtain ⟨_, _, hat⟩ := World.cells?_some hc
      refine ⟨e, fun j u hj => ?_⟩
      have hj6 : j < 6 := (List.getElem?_eq_some_iff.1 hj).1
      rw [← Go.Deep.add_add, hat j hj6, hj]
    obtain ⟨q, hq⟩ := choose_lt each
    refine ⟨(List.range len).map q, by simp, hl, by simp, Nat.le_trans (Nat.le_trans hl hm) (by decide), fun _ => ⟨a, rfl, fun j p hj => ?_⟩⟩
    rw [List.getElem?_map] at hj
    obtain ⟨j', hj', rfl⟩ := Option.map_eq_some_iff.1 hj
    obtain ⟨hjl, e⟩ := List.getElem?_eq_some_iff.1 hj'
    rw [List.getElem_range] at e
    subst e
    rw [List.length_range] at hjl
    exact ⟨_, rfl, k39_mk w (q j), fun i u hu => hq j hjl i u hu⟩
end Go.Proofs.Ytidghmgaaenihaa.Q
