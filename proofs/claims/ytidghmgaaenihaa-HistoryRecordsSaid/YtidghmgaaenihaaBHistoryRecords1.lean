/- Texts of this claim, packed: HAwake45, Q33, ROps, Qe60, Qe59, Q10, PLaw10, PLaw11, HOpen, HOpen2, HOpen3. -/
import Derived.Test.YtidghmgaaenihaaBHistoryRecords0
import Derived.Test.YtidghmgaaenihaaQ0
import Derived.Test.YtidghmgaaenihaaHOps
import Derived.Deep.Slices
import Derived.Deep.Fields
import Derived.ChangeSame
import Derived.ChangeSlices
import Derived.WideKeyArr2
/-! part HAwake45 -/
namespace Go.Proofs.Ytidghmgaaenihaa.Q
open Go.RowKit Go.Proofs.YtidghmgaaenihaaW.PrintWords Go.Proofs.YtidghmgaaenihaaW.PrintLast Go.Proofs.YtidghmgaaenihaaW.PrintMore
set_option linter.unusedVariables false
set_option linter.unusedSimpArgs false
def awW : S39 := ⟨1, 0, true, 3, 7, false⟩
def awR : S39 := ⟨1, 1, false, 3, 0, false⟩
def awD0 : S39 := ⟨2, 0, true, 3, 7, false⟩
def awD1 : S39 := ⟨2, 1, false, 3, 7, false⟩
def awF : S39 := ⟨1, 2, false, 0, 0, true⟩
def awL : List S39 := [awW, awR, awD0, awD1, awF, cutE]
def awO : List S60 := [⟨0, 3, 7, true, false, 0, 0, 2⟩, ⟨1, 3, 7, false, false, 0, 1, 3⟩, ⟨2, 0, 0, false, true, 0, 4, -1⟩]
theorem aw_parse : parseP awL = some (awO, 1) := by rfl
theorem aw_ops : opsP awL = (awO, 0) := by unfold opsP; rw [aw_parse]
theorem aw_pend : pendP awL = [] := by
  unfold pendP
  rw [aw_parse]
  have h : awO.filter (pendB (cutsN awL)) = [] := by decide
  simp only [h, List.map_nil, List.mergeSort_nil]
theorem CallPost.good {w : World} {base p : Nat} {ok : Nat → Prop} {es cs : List S39} {os : List Bool} {e : S39} {r : Ending} {w' : World} (h : CallPost w base p ok es cs os e r w') (hn : ¬ (e.f3 < 0 ∨ e.f4 < 0)) :
    r = .returned (.int .i64 cs.length) ∧ Rec w' base p ok (es ++ [callE e cs.length]) (cs ++ [callE e cs.length]) (os ++ [true]) ∧ Below base w w' ∧ Kept w w' ok := by
  unfold CallPost at h
  rwa [if_neg hn] at h
theorem aw_l2 (a b : Bool) (x y : S39) : [a, b].length = [x, y].length := rfl
theorem aw_rd0 (b : Bool) : rdOf false [true, b] 0 = true := rfl
theorem aw_rd1 (b : Bool) : rdOf false [b, true] 1 = true := rfl
theorem aw_l3 (a b d : Bool) (x y z : S39) : [a, b, d].length = [x, y, z].length := rfl
theorem aw_rd2 (a b : Bool) : rdOf false [a, b, false] 2 = false := rfl
abbrev okT : Nat → Prop := fun _ => True
set_option maxHeartbeats 4000000 in
set_option maxRecDepth 100000 in
theorem awake45_any (w : World) : Calls Try.prog 31 #[] w fun e w' => e = .returned (.bool true) ∧ Below w.heap.size w w' := by
  go_enter Try.func31, Try.ntmps31
  go_wp2_with fail
  (with_reducible refine (new_any w okT (fun _ _ => trivial)).mono ?_)
  rintro e w1 ⟨p, rfl, hR, hB⟩
  have HR := Aside0.mk hR
  have HB := Aside0.mk hB
  clear hR hB
  go_wp2_with fail
  (with_reducible refine (write_any HR.out (fun _ _ => trivial) (by simp) (by simp) (by simp) 3 7 false).mono ?_)
  intro r w2 hp
  obtain ⟨he, hR, hB, _⟩ := hp.good (by decide)
  obtain rfl : r = .returned (.int .i64 0) := he
  clear hp
  have HR2 : Aside0 (Rec w2 w.heap.size p okT [awW] [awW] [true]) := ⟨hR⟩
  have HB2 := Aside0.mk (HB.out.trans hB)
  clear hR hB HR HB
  go_wp2_with fail
  (with_reducible refine (read_any HR2.out (fun _ _ => trivial) (by simp) (by simp) (by simp) 3).mono ?_)
  intro r w3 hp
  obtain ⟨he, hR, hB, _⟩ := hp.good (by decide)
  obtain rfl : r = .returned (.int .i64 1) := he
  clear hp
  have HR3 : Aside0 (Rec w3 w.heap.size p okT [awW, awR] [awW, awR] [true, true]) := ⟨hR⟩
  have HB3 := Aside0.mk (HB2.out.trans hB)
  clear hR hB HR2 HB2
  go_wp2_with fail
  (with_reducible refine (done_ok w3 HR3.out (fun _ _ => trivial) (aw_l2 _ _ _ _) (by simp) (by simp) 0 0 (by decide) (by decide) (aw_rd0 _)).mono ?_)
  rintro r w4 ⟨rfl, hR, hB, _⟩
  have HR4 : Aside0 (Rec w4 w.heap.size p okT [awW, awR, awD0] [awW, awR] [false, true]) := ⟨hR⟩
  have HB4 := Aside0.mk (HB3.out.trans hB)
  clear hR hB HR3 HB3
  go_wp2_with fail
  (with_reducible refine (done_ok w4 HR4.out (fun _ _ => trivial) (aw_l2 _ _ _ _) (by simp) (by simp) 1 7 (by decide) (by decide) (aw_rd1 _)).mono ?_)
  rintro r w5 ⟨rfl, hR, hB, _⟩
  have HR5 : Aside0 (Rec w5 w.heap.size p okT [awW, awR, awD0, awD1] [awW, awR] [false, false]) := ⟨hR⟩
  have HB5 := Aside0.mk (HB4.out.trans hB)
  clear hR hB HR4 HB4
  go_wp2_with fail
  (with_reducible refine (flush_any HR5.out (fun _ _ => trivial) (by simp) (by simp) (by simp)).mono ?_)
  rintro r w6 ⟨he, hR, hB, _⟩
  obtain rfl : r = .returned (.int .i64 2) := he
  have HR6 : Aside0 (Rec w6 w.heap.size p okT [awW, awR, awD0, awD1, awF] [awW, awR, awF] [false, false, true]) := ⟨hR⟩
  have HB6 := Aside0.mk (HB5.out.trans hB)
  clear hR hB HR5 HB5
  go_wp2_with fail
  (with_reducible refine (rcut_any w6 HR6.out (fun _ _ => trivial) (by simp) (by simp)).mono ?_)
  rintro r w7 ⟨rfl, hR, hB, _⟩
  have HR7 : Aside0 (Rec w7 w.heap.size p okT awL [awW, awR, awF] [false, false, false]) := ⟨hR⟩
  have HB7 := Aside0.mk (HB6.out.trans hB)
  clear hR hB HR6 HB6
  go_wp2_with fail
  (with_reducible refine (events_any w7 HR7.out (by decide)).mono ?_)
  rintro r w8 ⟨v, rfl, hR, hB⟩
  obtain ⟨A, c, rfl, hc, hC⟩ := Kd.R_reads hR
  have HC8 := Aside0.mk hC
  have HB78 := Aside0.mk hB
  have HB8 := Aside0.mk (below_then HB7.out HB7.out.size hB)
  clear hR hB hC
  go_wp2_with fail
  have HOP := Aside0.mk (ops_any A c awL w8 HC8.out hc (by decide))
  rw [aw_ops] at HOP
  (with_reducible refine HOP.out.mono ?_)
  rintro r w9 ⟨v, rfl, hR, hB⟩
  obtain ⟨A2, c2, rfl, hc2, hC2⟩ := Kd.R_reads hR
  have HC9 := Aside0.mk hC2
  have HB89 := Aside0.mk hB
  clear HOP hR hB hC2
  have hl6 : (awL.length : Int) = 6 := rfl
  have hl3 : (awO.length : Int) = 3 := rfl
  go_wp2_with fail
  have HVA := Aside0.mk (valid39 A c awL w9 (Kd.C_below HC8.out HB89.out) hc (by decide))
  rw [aw_parse] at HVA
  (with_reducible refine HVA.out.mono ?_)
  rintro r w10 ⟨rfl, hB⟩
  have HB90 := Aside0.mk hB
  clear HVA hB
  obtain ⟨ad, eA, x0, x1, x2, x3, x4, x5, x6, x7⟩ := at_T60 (Kd.C_below HC9.out HB90.out) 1 (by decide) (by decide)
  obtain ⟨ad2, eA2, y0, y1, y2, y3, y4, y5, y6, y7⟩ := at_T60 (Kd.C_below HC9.out HB90.out) 2 (by decide) (by decide)
  rw [eA] at eA2
  cases eA2
  subst eA
  have x2' : w10.cell? ⟨ad.block, ad.off + 8 + 2, none⟩ = some (.int .i64 7) := x2
  have y7' : w10.cell? ⟨ad.block, ad.off + 16 + 7, none⟩ = some (.int .i64 (-1)) := y7
  clear x0 x1 x2 x3 x4 x5 x6 x7 y0 y1 y2 y3 y4 y5 y6 y7
  simp only [Option.isSome_some]
  go_wp2_with fail
  have HB10 := Aside0.mk (below_step HB89.out HB90.out)
  have HPE := Aside0.mk (pend_any sortC A c awL w10 (Kd.C_below HC8.out HB10.out) hc (by decide))
  rw [aw_pend] at HPE
  (with_reducible refine HPE.out.mono ?_)
  rintro r w11 ⟨v, rfl, hR, hB⟩
  obtain ⟨A3, c3, rfl, _, _⟩ := Kd.R_reads hR
  have HB11 := Aside0.mk (below_step HB10.out hB)
  clear hR hB HPE x2' y7'
  have HR11 := Aside0.mk (show Rec w11 w.heap.size p okT awL [awW, awR, awF] [false, false, false] from by
    obtain ⟨v1, v2, v3, h⟩ := HR7.out
    exact ⟨v1, v2, v3, h.below (below_step HB78.out HB11.out)⟩)
  have hl0 : (([] : List Int).length : Int) = 0 := rfl
  go_wp2_with fail
  (with_reducible refine (done_state w11 HR11.out (aw_l3 _ _ _ _ _ _) (by simp) 2 0 (by decide) (by decide) (aw_rd2 _ _)).mono ?_)
  rintro r w12 ⟨rfl, hB⟩
  have HB12 := Aside0.mk (below_then HB8.out HB8.out.size (below_step HB11.out hB))
  clear hB
  go_wp2
  go_ret
  exact ⟨rfl, HB12.out⟩
def tegulalaw45_awake.f : Option Bool := some true
end Go.Proofs.Ytidghmgaaenihaa.Q

/-! part Q33 -/
namespace Go.Proofs.Ytidghmgaaenihaa.Q
open Go.RowKit Go.Proofs.YtidghmgaaenihaaW.PrintWords Go.Proofs.YtidghmgaaenihaaW.PrintLast Go.Proofs.YtidghmgaaenihaaW.PrintMore
attribute [local go_sem] max2_int min2_int max_two min_two max_three min_three max_four min_four
set_option linter.unusedVariables false
set_option linter.unusedSimpArgs false

/-! ### tegularef45_Ops: function 33 -/
mutual
def tegularef45_Ops.l0 : Nat → List (S39) → List (S59) → Int → Int → Option ((List (S59)) × Int)
  | 0, _, _, _, _ => none
  | k + 1, x0, x4, x5, x6 => if x6 < (x0.length : Int) then (if 0 ≤ x6 then (if ((rd_T39 x0 x6).f0) = 3 then (tegularef45_Ops.l0 k x0 x4 (wrap64 (x5 + 1)) (wrap64 (x6 + 1))) else (if ((rd_T39 x0 x6).f0) = 1 then (if x4.length < 2513169434916 then (tegularef45_Ops.l0 k x0 (x4 ++ [(⟨(rd_T39 x0 x6).f1, (rd_T39 x0 x6).f3, (rd_T39 x0 x6).f4, (rd_T39 x0 x6).f2, (rd_T39 x0 x6).f5, x5, x6, (-1)⟩ : S59)]) x5 (wrap64 (x6 + 1))) else (none)) else (tegularef45_Ops.l1 k x0 x4 x5 x6 0 ((rd_T39 x0 x6).f0) ((rd_T39 x0 x6).f1) ((rd_T39 x0 x6).f2) ((rd_T39 x0 x6).f3) ((rd_T39 x0 x6).f4) ((rd_T39 x0 x6).f5)))) else (none)) else (some (x4, 0))
def tegularef45_Ops.l1 : Nat → List (S39) → List (S59) → Int → Int → Int → Int → Int → Bool → Int → Int → Bool → Option ((List (S59)) × Int)
  | 0, _, _, _, _, _, _, _, _, _, _, _ => none
  | k + 1, x0, x4, x5, x6, x8, x179000, x179001, x179002, x179003, x179004, x179005 => if x8 < (x4.length : Int) then (if 0 ≤ x8 then (if ((rd_T59 x4 x8).f0) = x179001 then ((some (x4.set (x8 : Int).toNat (⟨(rd_T59 x4 x8).f0, (rd_T59 x4 x8).f1, x179004, (rd_T59 x4 x8).f3, (rd_T59 x4 x8).f4, (rd_T59 x4 x8).f5, (rd_T59 x4 x8).f6, (rd_T59 x4 x8).f7⟩ : S59) : List (S59))).bind fun y183 => (tegularef45_Ops.l1 k x0 (y183.set (x8 : Int).toNat (⟨(rd_T59 y183 x8).f0, (rd_T59 y183 x8).f1, (rd_T59 y183 x8).f2, (rd_T59 y183 x8).f3, (rd_T59 y183 x8).f4, (rd_T59 y183 x8).f5, (rd_T59 y183 x8).f6, x6⟩ : S59)) x5 x6 (wrap64 (x8 + 1)) x179000 x179001 x179002 x179003 x179004 x179005)) else (tegularef45_Ops.l1 k x0 x4 x5 x6 (wrap64 (x8 + 1)) x179000 x179001 x179002 x179003 x179004 x179005)) else (none)) else (tegularef45_Ops.l0 k x0 x4 x5 (wrap64 (x6 + 1)))
end
def tegularef45_Ops.f (k : Nat) (l0 : List (S39)) : Option ((List (S59)) × Int) := (tegularef45_Valid.f l0).bind fun t176 => (if t176 = true then (tegularef45_Ops.l0 k l0 ([] : List (S59)) 0 0) else (some (([] : List (S59)), 1)))
theorem tegularef45_Ops.mono_l : ∀ k, (∀ y0 y1 y2 y3, LeO (tegularef45_Ops.l0 k y0 y1 y2 y3) (tegularef45_Ops.l0 (k + 1) y0 y1 y2 y3)) ∧ (∀ y0 y1 y2 y3 y4 y5 y6 y7 y8 y9 y10, LeO (tegularef45_Ops.l1 k y0 y1 y2 y3 y4 y5 y6 y7 y8 y9 y10) (tegularef45_Ops.l1 (k + 1) y0 y1 y2 y3 y4 y5 y6 y7 y8 y9 y10))
  | 0 => ⟨fun _ _ _ _ r h => by simp [tegularef45_Ops.l0] at h, fun _ _ _ _ _ _ _ _ _ _ _ r h => by simp [tegularef45_Ops.l1] at h⟩
  | k + 1 => by
    obtain ⟨ih0, ih1⟩ := tegularef45_Ops.mono_l k
    refine ⟨?_, ?_⟩
    · intro y0 y1 y2 y3
      unfold tegularef45_Ops.l0
      repeat' first
      | (with_reducible exact ih0 _ _ _ _)
      | (with_reducible exact ih1 _ _ _ _ _ _ _ _ _ _ _)
      | (with_reducible exact LeO.refl _)
      | (with_reducible exact LeO.none _)
      | (with_reducible refine LeO.ite ?_ ?_)
      | (with_reducible refine LeO.bind ?_ (fun _ => ?_))
      | exact ih0 _ _ _ _
      | exact ih1 _ _ _ _ _ _ _ _ _ _ _
      | exact LeO.none _
      | refine LeO.ite ?_ ?_
      | refine LeO.bind ?_ (fun _ => ?_)
    · intro y0 y1 y2 y3 y4 y5 y6 y7 y8 y9 y10
      unfold tegularef45_Ops.l1
      repeat' first
      | (with_reducible exact ih0 _ _ _ _)
      | (with_reducible exact ih1 _ _ _ _ _ _ _ _ _ _ _)
      | (with_reducible exact LeO.refl _)
      | (with_reducible exact LeO.none _)
      | (with_reducible refine LeO.ite ?_ ?_)
      | (with_reducible refine LeO.bind ?_ (fun _ => ?_))
      | exact ih0 _ _ _ _
      | exact ih1 _ _ _ _ _ _ _ _ _ _ _
      | exact LeO.none _
      | refine LeO.ite ?_ ?_
      | refine LeO.bind ?_ (fun _ => ?_)
theorem tegularef45_Ops.mono : ∀ a0 k, LeO (tegularef45_Ops.f k a0) (tegularef45_Ops.f (k + 1) a0) := by
  intro a0 k
  obtain ⟨ih0, ih1⟩ := tegularef45_Ops.mono_l k
  unfold tegularef45_Ops.f
  repeat' first
      | (with_reducible exact ih0 _ _ _ _)
      | (with_reducible exact ih1 _ _ _ _ _ _ _ _ _ _ _)
      | (with_reducible exact LeO.refl _)
      | (with_reducible exact LeO.none _)
      | (with_reducible refine LeO.ite ?_ ?_)
      | (with_reducible refine LeO.bind ?_ (fun _ => ?_))
      | exact ih0 _ _ _ _
      | exact ih1 _ _ _ _ _ _ _ _ _ _ _
      | exact LeO.none _
      | refine LeO.ite ?_ ?_
      | refine LeO.bind ?_ (fun _ => ?_)
end Go.Proofs.Ytidghmgaaenihaa.Q

/-! part ROps -/
namespace Go.Proofs.Ytidghmgaaenihaa.Q
open Go.RowKit Go.Proofs.YtidghmgaaenihaaW.PrintWords Go.Proofs.YtidghmgaaenihaaW.PrintLast Go.Proofs.YtidghmgaaenihaaW.PrintMore
set_option linter.unusedVariables false
set_option linter.unusedSimpArgs false

end Go.Proofs.Ytidghmgaaenihaa.Q

/-! part Qe60 -/
namespace Go.Proofs.Ytidghmgaaenihaa.Q
open Go.RowKit Go.Proofs.YtidghmgaaenihaaW.PrintWords Go.Proofs.YtidghmgaaenihaaW.PrintLast Go.Proofs.YtidghmgaaenihaaW.PrintMore
attribute [local go_sem] max2_int min2_int max_two min_two max_three min_three max_four min_four
set_option linter.unusedVariables false
set_option linter.unusedSimpArgs false

theorem eqA60 (d : Nat) (w : World) (x0 y0 : Int) (x1 y1 : Int) (x2 y2 : Int) (x3 y3 : Bool) (x4 y4 : Bool) (x5 y5 : Int) (x6 y6 : Int) (x7 y7 : Int) :
    (Op.equalIn (d + 2) 60 (.agg #[.int .i64 x0, .int .i64 x1, .int .i64 x2, .bool x3, .bool x4, .int .i64 x5, .int .i64 x6, .int .i64 x7]) (.agg #[.int .i64 y0, .int .i64 y1, .int .i64 y2, .bool y3, .bool y4, .int .i64 y5, .int .i64 y6, .int .i64 y7])).run Try.prog w = .ok (x0 == y0 && (x1 == y1 && (x2 == y2 && (x3 == y3 && (x4 == y4 && (x5 == y5 && (x6 == y6 && (x7 == y7)))))))) w := by
  refine eqA_of Try.underlying60 (by kernel_rfl) ?_
  refine eqf_cons (by rfl) (by go_simp; rfl) (by go_simp; rfl) (by go_simp) ?_
  refine eqf_cons (by rfl) (by go_simp; rfl) (by go_simp; rfl) (by go_simp) ?_
  refine eqf_cons (by rfl) (by go_simp; rfl) (by go_simp; rfl) (by go_simp) ?_
  refine eqf_cons (by rfl) (by go_simp; rfl) (by go_simp; rfl) (by go_simp) ?_
  refine eqf_cons (by rfl) (by go_simp; rfl) (by go_simp; rfl) (by go_simp) ?_
  refine eqf_cons (by rfl) (by go_simp; rfl) (by go_simp; rfl) (by go_simp) ?_
  refine eqf_cons (by rfl) (by go_simp; rfl) (by go_simp; rfl) (by go_simp) ?_
  exact eqf_last (by rfl) (by go_simp; rfl) (by go_simp; rfl) (by go_simp)
end Go.Proofs.Ytidghmgaaenihaa.Q

/-! part Qe59 -/
namespace Go.Proofs.Ytidghmgaaenihaa.Q
open Go.RowKit Go.Proofs.YtidghmgaaenihaaW.PrintWords Go.Proofs.YtidghmgaaenihaaW.PrintLast Go.Proofs.YtidghmgaaenihaaW.PrintMore
attribute [local go_sem] max2_int min2_int max_two min_two max_three min_three max_four min_four
set_option linter.unusedVariables false
set_option linter.unusedSimpArgs false

theorem eqA59 (d : Nat) (w : World) (x0 y0 : Int) (x1 y1 : Int) (x2 y2 : Int) (x3 y3 : Bool) (x4 y4 : Bool) (x5 y5 : Int) (x6 y6 : Int) (x7 y7 : Int) :
    (Op.equalIn (d + 2) 59 (.agg #[.int .i64 x0, .int .i64 x1, .int .i64 x2, .bool x3, .bool x4, .int .i64 x5, .int .i64 x6, .int .i64 x7]) (.agg #[.int .i64 y0, .int .i64 y1, .int .i64 y2, .bool y3, .bool y4, .int .i64 y5, .int .i64 y6, .int .i64 y7])).run Try.prog w = .ok (x0 == y0 && (x1 == y1 && (x2 == y2 && (x3 == y3 && (x4 == y4 && (x5 == y5 && (x6 == y6 && (x7 == y7)))))))) w := by
  refine eqA_of Try.underlying59 (by kernel_rfl) ?_
  refine eqf_cons (by rfl) (by go_simp; rfl) (by go_simp; rfl) (by go_simp) ?_
  refine eqf_cons (by rfl) (by go_simp; rfl) (by go_simp; rfl) (by go_simp) ?_
  refine eqf_cons (by rfl) (by go_simp; rfl) (by go_simp; rfl) (by go_simp) ?_
  refine eqf_cons (by rfl) (by go_simp; rfl) (by go_simp; rfl) (by go_simp) ?_
  refine eqf_cons (by rfl) (by go_simp; rfl) (by go_simp; rfl) (by go_simp) ?_
  refine eqf_cons (by rfl) (by go_simp; rfl) (by go_simp; rfl) (by go_simp) ?_
  refine eqf_cons (by rfl) (by go_simp; rfl) (by go_simp; rfl) (by go_simp) ?_
  exact eqf_last (by rfl) (by go_simp; rfl) (by go_simp; rfl) (by go_simp)
end Go.Proofs.Ytidghmgaaenihaa.Q

/-! part Q10 -/
namespace Go.Proofs.Ytidghmgaaenihaa.Q
open Go.RowKit Go.Proofs.YtidghmgaaenihaaW.PrintWords Go.Proofs.YtidghmgaaenihaaW.PrintLast Go.Proofs.YtidghmgaaenihaaW.PrintMore
attribute [local go_sem] max2_int min2_int max_two min_two max_three min_three max_four min_four
set_option linter.unusedVariables false
set_option linter.unusedSimpArgs false

attribute [local go_sem high] eqA60 eqA59
/-! ### tegulalaw45_HistoryOps: function 10 -/
mutual
def tegulalaw45_HistoryOps.j0 : Nat → List (S60) → List (S59) → Bool → Option (Bool)
  | 0, _, _, _ => none
  | k + 1, x3, x5, x32 => if x32 = true then (some false) else (tegulalaw45_HistoryOps.l0 k x3 x5 0)
def tegulalaw45_HistoryOps.l0 : Nat → List (S60) → List (S59) → Int → Option (Bool)
  | 0, _, _, _ => none
  | k + 1, x3, x5, x7 => if x7 < (x3.length : Int) then (if 0 ≤ x7 then (if x7 < (x5.length : Int) then (if (!(((rd_T60 x3 x7).f0) == ((rd_T59 x5 x7).f0)) || (!(((rd_T60 x3 x7).f1) == ((rd_T59 x5 x7).f1)) || (!(((rd_T60 x3 x7).f2) == ((rd_T59 x5 x7).f2)) || (!(((rd_T60 x3 x7).f3) == ((rd_T59 x5 x7).f3)) || (!(((rd_T60 x3 x7).f4) == ((rd_T59 x5 x7).f4)) || (!(((rd_T60 x3 x7).f5) == ((rd_T59 x5 x7).f5)) || (!(((rd_T60 x3 x7).f6) == ((rd_T59 x5 x7).f6)) || (!(((rd_T60 x3 x7).f7) == ((rd_T59 x5 x7).f7)))))))))) = true then (some false) else (tegulalaw45_HistoryOps.l0 k x3 x5 (wrap64 (x7 + 1)))) else (none)) else (none)) else (some true)
end
def tegulalaw45_HistoryOps.f (k : Nat) (l0 : List (S39)) : Option (Bool) := (tegulalaw45_awake.f).bind fun t470 => (if t470 = true then (if (l0.length : Int) > 60 then (some true) else ((history_Ops.f l0).bind fun bt471 => ((tegularef45_Ops.f k l0).bind fun bt475 => (if bt471.2 = bt475.2 then (tegulalaw45_HistoryOps.j0 k bt471.1 bt475.1 ((bt471.1.length : Int) != (bt475.1.length : Int))) else (tegulalaw45_HistoryOps.j0 k bt471.1 bt475.1 true))))) else (some false))
theorem tegulalaw45_HistoryOps.mono_l : ∀ k, (∀ y0 y1 y2, LeO (tegulalaw45_HistoryOps.j0 k y0 y1 y2) (tegulalaw45_HistoryOps.j0 (k + 1) y0 y1 y2)) ∧ (∀ y0 y1 y2, LeO (tegulalaw45_HistoryOps.l0 k y0 y1 y2) (tegulalaw45_HistoryOps.l0 (k + 1) y0 y1 y2))
  | 0 => ⟨fun _ _ _ r h => by simp [tegulalaw45_HistoryOps.j0] at h, fun _ _ _ r h => by simp [tegulalaw45_HistoryOps.l0] at h⟩
  | k + 1 => by
    obtain ⟨ih0, ih1⟩ := tegulalaw45_HistoryOps.mono_l k
    refine ⟨?_, ?_⟩
    · intro y0 y1 y2
      unfold tegulalaw45_HistoryOps.j0
      repeat' first
      | (with_reducible exact ih0 _ _ _)
      | (with_reducible exact ih1 _ _ _)
      | (with_reducible exact tegularef45_Ops.mono _ _)
      | (with_reducible exact LeO.refl _)
      | (with_reducible exact LeO.none _)
      | (with_reducible refine LeO.ite ?_ ?_)
      | (with_reducible refine LeO.bind ?_ (fun _ => ?_))
      | exact ih0 _ _ _
      | exact ih1 _ _ _
      | exact tegularef45_Ops.mono _ _
      | exact LeO.none _
      | refine LeO.ite ?_ ?_
      | refine LeO.bind ?_ (fun _ => ?_)
    · intro y0 y1 y2
      unfold tegulalaw45_HistoryOps.l0
      repeat' first
      | (with_reducible exact ih0 _ _ _)
      | (with_reducible exact ih1 _ _ _)
      | (with_reducible exact tegularef45_Ops.mono _ _)
      | (with_reducible exact LeO.refl _)
      | (with_reducible exact LeO.none _)
      | (with_reducible refine LeO.ite ?_ ?_)
      | (with_reducible refine LeO.bind ?_ (fun _ => ?_))
      | exact ih0 _ _ _
      | exact ih1 _ _ _
      | exact tegularef45_Ops.mono _ _
      | exact LeO.none _
      | refine LeO.ite ?_ ?_
      | refine LeO.bind ?_ (fun _ => ?_)
theorem tegulalaw45_HistoryOps.mono : ∀ a0 k, LeO (tegulalaw45_HistoryOps.f k a0) (tegulalaw45_HistoryOps.f (k + 1) a0) := by
  intro a0 k
  obtain ⟨ih0, ih1⟩ := tegulalaw45_HistoryOps.mono_l k
  unfold tegulalaw45_HistoryOps.f
  repeat' first
      | (with_reducible exact ih0 _ _ _)
      | (with_reducible exact ih1 _ _ _)
      | (with_reducible exact tegularef45_Ops.mono _ _)
      | (with_reducible exact LeO.refl _)
      | (with_reducible exact LeO.none _)
      | (with_reducible refine LeO.ite ?_ ?_)
      | (with_reducible refine LeO.bind ?_ (fun _ => ?_))
      | exact ih0 _ _ _
      | exact ih1 _ _ _
      | exact tegularef45_Ops.mono _ _
      | exact LeO.none _
      | refine LeO.ite ?_ ?_
      | refine LeO.bind ?_ (fun _ => ?_)
end Go.Proofs.Ytidghmgaaenihaa.Q

/-! part PLaw10 -/
namespace Go.Proofs.Ytidghmgaaenihaa.Q
open Go.RowKit Go.Proofs.YtidghmgaaenihaaW.PrintWords Go.Proofs.YtidghmgaaenihaaW.PrintLast Go.Proofs.YtidghmgaaenihaaW.PrintMore
set_option linter.unusedVariables false
set_option linter.unusedSimpArgs false
end Go.Proofs.Ytidghmgaaenihaa.Q

/-! part PLaw11 -/
namespace Go.Proofs.Ytidghmgaaenihaa.Q
open Go.RowKit Go.Proofs.YtidghmgaaenihaaW.PrintWords Go.Proofs.YtidghmgaaenihaaW.PrintLast Go.Proofs.YtidghmgaaenihaaW.PrintMore
set_option linter.unusedVariables false
set_option linter.unusedSimpArgs false
theorem Rec.reok {w : World} {base p : Nat} {ok ok' : Nat → Prop} {es cs : List S39} {os : List Bool} (h : Rec w base p ok es cs os) (hok : ∀ k, k < w.heap.size → ok' k) : Rec w base p ok' es cs os := by
  obtain ⟨v1, v2, v3, h⟩ := h
  exact ⟨v1, v2, v3, h.blk, h.le, hok _ h.lt, Kd.R_mono (Kd.R_bound h.R1) (fun k hk => hok k hk.2.2.1), Kd.R_mono (Kd.R_bound h.R2) (fun k hk => hok k hk.2.2.1), Kd.R_mono (Kd.R_bound h.R3) (fun k hk => hok k hk.2.2.1), h.apart⟩
theorem recN_res (script : List S69) {x : Nat} {z : Int} (h : (recN script (x + 1)).2.1 = (recN script x).2.1 ++ [z]) (hx : x < script.length) : ∀ d, x + 1 + d ≤ script.length → rd (recN script (x + 1 + d)).2.1 (x : Int) = z
  | 0, hd => by
    rw [Nat.add_zero, h]
    have hl := (recN_len script x (by omega)).2.1
    unfold rd
    rw [Int.toNat_natCast, List.getD_eq_getElem?_getD, List.getElem?_append_right (by omega), hl]
    simp
  | d + 1, hd => by
    have ih := recN_res script h hx d (by omega)
    have hl := (recN_len script (x + 1 + d) (by omega)).2.1
    rw [show x + 1 + (d + 1) = (x + 1 + d) + 1 by omega, recN_succ script (by omega)]
    have hs : ∃ q, (recStep (recN script (x + 1 + d)) (rd_T69 script ((x + 1 + d : Nat) : Int))).2.1 = (recN script (x + 1 + d)).2.1 ++ [q] := by
      unfold recStep
      split
      · split <;> exact ⟨_, rfl⟩
      · split <;> exact ⟨_, rfl⟩
    obtain ⟨q, hq⟩ := hs
    rw [hq]
    unfold rd at ih ⊢
    rw [Int.toNat_natCast, List.getD_eq_getElem?_getD] at ih ⊢
    rw [List.getElem?_append_left (by omega)]
    exact ih
theorem act_count (s : RS) (a : S69) : ((actR s a).2.cs.length : Int) = if a.f0 % 8 < 4 ∧ 0 ≤ (actR s a).1 then (s.cs.length : Int) + 1 else s.cs.length := by
  unfold actR
  split
  · rename_i h4
    split
    · rw [if_neg (by simp)]
    · rw [if_pos ⟨h4, by simp only; omega⟩]; simp
  · rename_i h4
    split
    · rw [if_neg (fun q => h4 q.1)]
    · split
      · rw [if_neg (fun q => h4 q.1)]
      · split
        · rw [if_neg (fun q => h4 q.1)]
        · rw [if_neg (fun q => h4 q.1)]
theorem same_l0 (a : List S39) (ha : a.length ≤ 1000000) : ∀ d x, a.length - x = d → x ≤ a.length → tegularef45_Same.l0 (d + 1) a a (x : Nat) = some true
  | 0, x, hd, hx => by
    obtain rfl : x = a.length := by omega
    rw [tegularef45_Same.l0, if_neg (by omega)]
  | d + 1, x, hd, hx => by
    rw [tegularef45_Same.l0, if_pos (by omega), if_pos (by omega), if_pos (by omega), if_neg (by simp), wrap_succ (by omega) (by omega)]
    exact same_l0 a ha d (x + 1) (by omega) (by omega)
theorem same_self (a : List S39) (ha : a.length ≤ 1000000) : tegularef45_Same.f (a.length + 1) a a = some true := by
  rw [tegularef45_Same.f, if_pos rfl]
  exact same_l0 a ha a.length 0 (by omega) (by omega)
theorem at_res {w : World} {A : Option Addr} {l : List Int} (h : Kd.C (Kd.int .i64) w A l.length l) (i : Nat) (hi : i < l.length) : ∃ ad, A = some ad ∧ w.cell? (ad.add i) = some (.int .i64 (rd l (i : Int))) := by
  obtain ⟨ad, e, h⟩ := Kd.at_int h (i : Int) (by omega) (by omega)
  exact ⟨ad, e, by rwa [Int.toNat_natCast] at h⟩
set_option maxHeartbeats 8000000 in
set_option maxRecDepth 100000 in
theorem law11_walk (A : Option Addr) (c : Nat) (l : List S69) (w : World) (hr : Kd.C k69 w A l.length l) (hc : l.length ≤ c) (hok : ∀ x ∈ l, okAct45 x) :
    Calls Try.prog 11 #[.slice A l.length c] w fun e w' => e = .returned (.bool true) ∧ Below w.heap.size w w' := by
  have HR := Aside0.mk hr
  have HA := Aside0.mk hok
  clear hr hok
  have hlen : l.length ≤ 9223372036854775807 := HR.out.2.1
  by_cases hbig : l.length > 40
  · have hb2 : (l.length : Int) > 40 := by omega
    go_enter Try.func11, Try.ntmps11
    go_wp2_with (go_at_call 31; (with_reducible refine (awake45_any _).mono ?_); rintro e w1 ⟨rfl, hB⟩)
    go_ret
    exact ⟨rfl, hB⟩
  · have hb2 : ¬ (l.length : Int) > 40 := by omega
    go_enter Try.func11, Try.ntmps11
    go_wp2_with fail
    (with_reducible refine (awake45_any _).mono ?_)
    rintro e w1 ⟨rfl, hB⟩
    have HB1 := Aside0.mk hB
    clear hB
    go_wp2_with fail
    (with_reducible refine (new_any w1 okT (fun _ _ => trivial)).mono ?_)
    rintro e w2 ⟨p, rfl, hR, hB⟩
    have HR2 := Aside0.mk hR
    have HB2 := Aside0.mk (below_step HB1.out hB)
    have HB12 := Aside0.mk hB
    clear hR hB
    go_wp2_with fail
    (with_reducible refine (record_ref A c l w2 (Kd.C_below HR.out HB2.out) hc HA.out (by omega)).mono ?_)
    rintro e w3 ⟨u, v, rfl, hU, hV, hB⟩
    have HRL := Aside0.mk (recN_len l l.length (Nat.le_refl _))
    obtain ⟨A1, c1, rfl, hc1, _⟩ := Kd.R_reads hU
    obtain ⟨A2, c2, rfl, hc2, _⟩ := Kd.R_reads hV
    have HU := Aside0.mk (Kd.R_mono (ok' := fun k => w2.heap.size ≤ k ∧ k < w3.heap.size) (Kd.R_bound hU) (fun k hk => ⟨hk.2.1, hk.2.2.1⟩))
    have HV := Aside0.mk (Kd.R_mono (ok' := fun k => w2.heap.size ≤ k ∧ k < w3.heap.size) (Kd.R_bound hV) (fun k hk => ⟨hk.2.1, hk.2.2.1⟩))
    have HB3 := Aside0.mk (below_step HB2.out hB)
    have HRC := Aside0.mk (show Rec w3 w1.heap.size p (fun k => k < w2.heap.size ∨ w3.heap.size ≤ k) [] [] [] from (HR2.out.reok (fun k hk => .inl hk)).below hB)
    have HNE := Aside0.mk (show ∀ k, (w2.heap.size ≤ k ∧ k < w3.heap.size) → ¬ (k < w2.heap.size ∨ w3.heap.size ≤ k) from fun k h1 h2 => by omega)
    have hw1 := HB1.out.size
    have hres : (recN l l.length).2.1.length = l.length := HRL.out.2.1
    clear hB hU hV HR2
    go_wp2
    go_loopw [6, 7, 8] (fun v6 v7 v8 wr => ∃ (x : Nat) (s : RS), x ≤ l.length ∧ v7 = .int .i64 x ∧ v6 = .int .i64 s.cs.length ∧ Aside0 (Side s (recN l x)) ∧ Aside0 (Rec wr w1.heap.size p (fun k => k < w2.heap.size ∨ w3.heap.size ≤ k) s.es s.cs s.os) ∧ Aside0 (Kept w3 wr (fun k => k < w2.heap.size ∨ w3.heap.size ≤ k)) ∧ Aside0 (Below w.heap.size w wr))
      (fun _ v7 _ _ => l.length - (intOf v7).toNat)
    case atStart => exact ⟨0, ⟨[], [], []⟩, by omega, rfl, rfl, ⟨side_zero⟩, HRC, ⟨Kept.refl _ _⟩, HB3⟩
    case round =>
      clear HRC
      obtain ⟨x, s, hx, rfl, rfl, HSi, HRC, HK, HB⟩ := hrel
      have hll := recN_len l x hx
      have hcl : s.cs.length ≤ 1000 := by have := HSi.out.n; omega
      have hel : s.es.length ≤ 1000 := by have := HSi.out.es; rw [this]; omega
      by_cases hlt : x < l.length
      · have hltb : (x : Int) < (l.length : Int) := by omega
        have hx0 : (0 : Int) ≤ x := by omega
        have hxb : (x : Int) < 1000000 := by omega
        obtain ⟨ad, eA, s0, s1, s2⟩ := at_T69 (Kd.C_below HR.out HB.out) x hx0 hltb
        subst eA
        obtain ⟨a, HE⟩ : ∃ a, Aside0 (rd_T69 l (x : Int) = a) := ⟨_, ⟨rfl⟩⟩
        have HO := Aside0.mk (HA.out _ (rdT69m hx0 hltb))
        have hst := HSi.out.step (rd_T69 l (x : Int))
        rw [← recN_succ l hlt] at hst
        have HCT := Aside0.mk (act_count s (rd_T69 l (x : Int)))
        have HRS := Aside0.mk (recN_res l hst.1 hlt (l.length - (x + 1)) (by omega))
        rw [show x + 1 + (l.length - (x + 1)) = l.length by omega] at HRS
        have HST := Aside0.mk hst.2
        have HAC := Aside0.mk (act_any wr (base := w1.heap.size) (p := p) HRC.out (fun k hk => .inr (Nat.le_trans HK.out.1 hk)) (by have h1 := HSi.out.n; have h2 := HSi.out.on; omega) hel hcl (rd_T69 l (x : Int)) HO.out)
        clear hst
        rw [HE.out] at s0 s1 s2 HO HCT HRS HST HAC
        generalize actR s a = z at HCT HRS HST HAC
        obtain ⟨z1, s'⟩ := z
        simp only at HCT HRS HST
        obtain ⟨k, o, v⟩ := a
        simp only [Int.toNat_natCast] at s0 s1 s2
        obtain ⟨⟨k0, k1⟩, ⟨o0, o1⟩, ⟨v0, v1⟩⟩ := HO.out
        unfold actW at HAC
        simp only at HAC HCT k0 k1 o0 o1 v0 v1
        go_wp2_with fail
        (with_reducible refine HAC.out.mono ?_)
        intro r w4 hp
        obtain ⟨rfl, hR4, hB4, hK4⟩ := hp
        have HR4 := Aside0.mk hR4
        have HK4 := Aside0.mk (HK.out.then_ hK4 (fun k hk => .inl hk))
        have HB4 := Aside0.mk (HB.out.trans (hB4.mono hw1))
        clear hR4 hB4 hK4 HAC HRC HK HB s0 s1 s2
        obtain ⟨ad2, eA2, t0⟩ := at_res (Kd.R_reads' (Kd.R_kept HV.out HK4.out HNE.out)).2.2 x (by rw [hres]; exact hlt)
        subst eA2
        rw [HRS.out] at t0
        obtain ⟨ad3, eA3, s0', _, _⟩ := at_T69 (Kd.C_below HR.out HB4.out) x hx0 hltb
        cases eA3
        rw [HE.out, Int.toNat_natCast] at s0'
        have hltr : (x : Int) < ((recN l l.length).2.1.length : Int) := by rw [hres]; exact hltb
        simp only at t0 s0'
        simp only
        by_cases h4 : k % 8 < 4
        · by_cases hz : z1 ≥ 0
          · have HC2 := Aside0.mk (show (s.cs.length : Int) + 1 = (s'.cs.length : Int) by have := HCT.out; rw [if_pos ⟨h4, hz⟩] at this; exact this.symm)
            go_wp2
            go_roundw
            case rel => exact ⟨x + 1, s', by omega, by first | rfl | simp, by rw [HC2.out], HST, HR4, HK4, HB4⟩
            case measure => simp [intOf]; omega
          · have HC2 := Aside0.mk (show (s.cs.length : Int) = (s'.cs.length : Int) by have := HCT.out; rw [if_neg (fun q => hz q.2)] at this; exact this.symm)
            go_wp2
            go_roundw
            case rel => exact ⟨x + 1, s', by omega, by first | rfl | simp, by rw [HC2.out], HST, HR4, HK4, HB4⟩
            case measure => simp [intOf]; omega
        · have HC2 := Aside0.mk (show (s.cs.length : Int) = (s'.cs.length : Int) by have := HCT.out; rw [if_neg (fun q => h4 q.1)] at this; exact this.symm)
          go_wp2
          go_roundw
          case rel => exact ⟨x + 1, s', by omega, by first | rfl | simp, by rw [HC2.out], HST, HR4, HK4, HB4⟩
          case measure => simp [intOf]; omega
      · obtain rfl : x = l.length := by omega
        have HES := Aside0.mk (HSi.out.es)
        have HVL := Aside0.mk (rec_valid l)
        have HU2 := Aside0.mk (Kd.R_reads' (Kd.R_kept HU.out HK.out HNE.out)).2.2
        generalize hL : (recN l l.length).1 = L at HES HVL HU2 hc1 hll ⊢
        go_wp2_with fail
        (with_reducible refine (events_any wr HRC.out hel).mono ?_)
        rintro e w5 ⟨v5, rfl, hR5, hB5⟩
        rw [HES.out] at hR5
        obtain ⟨A5, c5, rfl, hc5, hC5⟩ := Kd.R_reads hR5
        have HC5 := Aside0.mk hC5
        have HU5 := Aside0.mk (Kd.C_below HU2.out hB5)
        have HB5 := Aside0.mk (below_step HB.out hB5)
        have hL1 : L.length ≤ 1000000 := by omega
        clear hR5 hB5 hC5
        go_wp2_with fail
        (with_reducible refine (tegularef45_Same.calls (L.length + 1) A5 c5 L A1 c1 L true w5 HC5.out hc5 HU5.out hc1 (same_self L hL1)).mono ?_)
        rintro e w6 ⟨rfl, hD⟩
        have HB6 := Aside0.mk (below_step HB5.out hD.below)
        have HC6 := Aside0.mk (Kd.C_below HC5.out hD.below)
        clear hD
        have HVA := Aside0.mk (valid39 A5 c5 L w6 HC6.out hc5 hL1)
        rw [HVL.out] at HVA
        go_wp2_with fail
        (with_reducible refine HVA.out.mono ?_)
        rintro e w7 ⟨rfl, hB⟩
        have HB7 := Aside0.mk (below_step HB6.out hB)
        go_wp2
        go_ret
        exact ⟨rfl, HB7.out⟩
end Go.Proofs.Ytidghmgaaenihaa.Q

/-! part HOpen -/
namespace Go.Proofs.Ytidghmgaaenihaa.Q
open Go.RowKit Go.Proofs.YtidghmgaaenihaaW.PrintWords Go.Proofs.YtidghmgaaenihaaW.PrintLast Go.Proofs.YtidghmgaaenihaaW.PrintMore
open Go.ChangeShapes Go.WideShapes Go.Deep
set_option linter.unusedVariables false
instance : Inhabited S39 := ⟨⟨0, 0, false, 0, 0, false⟩⟩
end Go.Proofs.Ytidghmgaaenihaa.Q

/-! part HOpen2 -/
namespace Go.Proofs.Ytidghmgaaenihaa.Q
open Go.RowKit Go.Proofs.YtidghmgaaenihaaW.PrintWords Go.Proofs.YtidghmgaaenihaaW.PrintLast Go.Proofs.YtidghmgaaenihaaW.PrintMore
open Go.ChangeShapes Go.WideShapes Go.Deep Go.WideMaps
set_option linter.unusedVariables false
theorem u8_range {a : Int} (h : (Lit.int .u8 a).wf = true) : 0 ≤ a ∧ a < 256 := by
  have h2 : IntKind.u8.min ≤ a ∧ a ≤ IntKind.u8.max := by simpa [Lit.wf] using h
  have e1 : IntKind.u8.min = 0 := by decide
  have e2 : IntKind.u8.max = 255 := by decide
  omega
end Go.Proofs.Ytidghmgaaenihaa.Q

/-! part HOpen3 -/
namespace Go.Proofs.Ytidghmgaaenihaa.Q
open Go.RowKit Go.Proofs.YtidghmgaaenihaaW.PrintWords Go.Proofs.YtidghmgaaenihaaW.PrintLast Go.Proofs.YtidghmgaaenihaaW.PrintMore
open Go.ChangeShapes Go.WideShapes Go.Deep
set_option linter.unusedVariables false
theorem cellsOf69 : Try.prog.cellsOf 69 = 3 := by kernel_rfl
instance : Inhabited S69 := ⟨⟨0, 0, 0⟩⟩
theorem one69 (fs : Array Field) (h : Try.prog.underlying 69 = some (.struct fs)) : oneCellFields Try.prog fs = true := by
  rw [Try.underlying69] at h
  cases h
  kernel_rfl
theorem i8_range {a : Int} (h : (Lit.int .i8 a).wf = true) : -128 ≤ a ∧ a < 128 := by
  have h2 : IntKind.i8.min ≤ a ∧ a ≤ IntKind.i8.max := by simpa [Lit.wf] using h
  have e1 : IntKind.i8.min = -128 := by decide
  have e2 : IntKind.i8.max = 127 := by decide
  omega
set_option maxRecDepth 100000 in
theorem act_cells {H : Type} {enc : TypeId × Value → H} {w : World} {base : Nat} {spare : Nat → Bool} {held : Bool} {fuel : Nat} {cs : List Value} {x : DataW H × List MemPlace}
    (h : DataW.trod enc Try.prog w base spare held fuel 69 cs = some x) : ∃ e : S69, cs = [.int .u8 e.f0, .int .i8 e.f1, .int .i8 e.f2] ∧ okAct45 e := by
  obtain ⟨ys, n, _, _, hlen, hyl, hf⟩ := DataW.trod_struct Try.underlying69 h
  rw [cellsOf69] at hlen
  match cs, hlen with
  | [c0, c1, c2], _ =>
    match ys, hyl with
    | [y0, y1, y2], _ =>
      have hone := hone_of (one69 _ Try.underlying69)
      have g0 := hf 0 _ rfl
      obtain ⟨o0, z0⟩ := hone 0 _ rfl
      rw [o0, z0] at g0
      obtain ⟨n0, e0, -, w0⟩ := DataW.trod_int Try.underlying5 (show DataW.trod enc Try.prog w base spare held n 5 [c0] = some y0 from g0)
      have g1 := hf 1 _ rfl
      obtain ⟨o1, z1⟩ := hone 1 _ rfl
      rw [o1, z1] at g1
      obtain ⟨n1, e1, -, w1⟩ := DataW.trod_int Try.underlying67 (show DataW.trod enc Try.prog w base spare held n 67 [c1] = some y1 from g1)
      have g2 := hf 2 _ rfl
      obtain ⟨o2, z2⟩ := hone 2 _ rfl
      rw [o2, z2] at g2
      obtain ⟨n2, e2, -, w2⟩ := DataW.trod_int Try.underlying67 (show DataW.trod enc Try.prog w base spare held n 67 [c2] = some y2 from g2)
      refine ⟨⟨n0, n1, n2⟩, ?_, u8_range w0, i8_range w1, i8_range w2⟩
      simp only [List.cons.injEq, and_true] at e0 e1 e2
      rw [e0, e1, e2]
theorem open_acts45 {H : Type} {enc : TypeId × Value → H} {w : World} {base : Nat} {spare : Nat → Bool} {held : Bool} {fuel : Nat} {A : Option Addr} {len cap : Nat} {x : DataW H × List MemPlace}
    (h : DataW.trod enc Try.prog w base spare held fuel 61 [.slice A len cap] = some x) : ∃ l : List S69, l.length = len ∧ len ≤ cap ∧ Kd.C k69 w A len l ∧ ∀ x ∈ l, okAct45 x := by
  rcases open_slice Try.underlying61 h with ⟨hcs, _⟩ | ⟨a, len', cap', m, n, D, Pl, hcs, hb, hl, hm, hmm, hx, hi⟩
  · simp only [List.cons.injEq, Value.slice.injEq, and_true] at hcs
    obtain ⟨rfl, rfl, rfl⟩ := hcs
    exact ⟨[], rfl, Nat.le_refl _, ⟨rfl, by decide, fun h => absurd h (by decide)⟩, fun x hx => by cases hx⟩
  · simp only [List.cons.injEq, Value.slice.injEq, and_true] at hcs
    obtain ⟨rfl, rfl, rfl⟩ := hcs
    rw [cellsOf69] at hi
    have each : ∀ i, i < len → ∃ e : S69, okAct45 e ∧ ∀ j u, [Value.int .u8 e.f0, .int .i8 e.f1, .int .i8 e.f2][j]? = some u → w.cell? (a.add (i * 3 + j)) = some u := by
      intro i hil
      have him : i < m := by rw [hmm]; split <;> omega
      obtain ⟨cs', hc, ht⟩ := hi i him
      obtain ⟨e, rfl, hok⟩ := act_cells ht
      obtain ⟨_, _, hat⟩ := World.cells?_some hc
      refine ⟨e, hok, fun j u hj => ?_⟩
      have hj3 : j < 3 := (List.getElem?_eq_some_iff.1 hj).1
      rw [← Go.Deep.add_add, hat j hj3, hj]
    obtain ⟨q, hq⟩ := choose_lt each
    refine ⟨(List.range len).map q, by simp, hl, ⟨by simp, Nat.le_trans (Nat.le_trans hl hm) (by decide), fun _ => ⟨a, rfl, fun j p hj => ?_⟩⟩, fun x hx => ?_⟩
    · rw [List.getElem?_map] at hj
      obtain ⟨j', hj', rfl⟩ := Option.map_eq_some_iff.1 hj
      obtain ⟨hjl, e⟩ := List.getElem?_eq_some_iff.1 hj'
      rw [List.getElem_range] at e
      subst e
      rw [List.length_range] at hjl
      exact ⟨_, rfl, k69_mk w (q j), fun i u hu => (hq j hjl).2 i u hu⟩
    · obtain ⟨j, hj, rfl⟩ := List.mem_map.1 hx
      exact (hq j (List.mem_range.1 hj)).1
end Go.Proofs.Ytidghmgaaenihaa.Q
