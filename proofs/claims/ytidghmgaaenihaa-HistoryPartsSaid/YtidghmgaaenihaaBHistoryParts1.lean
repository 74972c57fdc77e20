/- Texts of this claim, packed: HAwake45, Q44, PLaw16, RRecW, RRec, PLaw17, HOpen, HOpen2, HOpen3. -/
import Derived.Test.YtidghmgaaenihaaBHistoryParts0
import Derived.Test.YtidghmgaaenihaaQ0
import Derived.Deep.QuietTactic
import Derived.BigQuiet
import Derived.Deep.Slices
import Derived.Deep.Fields
import Derived.ChangeSame
import Derived.ChangeSlices
import Derived.WideKeyArr2
/-! part HAwake45 -/
namespace Go.Proofs.Ytidghmgaaenihaa.Q
open Go.RowKit Go.Proofs.YtidghmgaaenihaaW.PrintWords Go.Proofs.YtidghmgaaenihaaW.PrintLast Go.Proofs.YtidghmgaaenihaaW.PrintMore
set_option linter.unusedVariables false
set_option linter.unusedSimpArgs false
def awW : S39 := ⟨1, 0, true, 3, 7, false⟩
def awR : S39 := ⟨1, 1, false, 3, 0, false⟩
def awD0 : S39 := ⟨2, 0, true, 3, 7, false⟩
def awD1 : S39 := ⟨2, 1, false, 3, 7, false⟩
def awF : S39 := ⟨1, 2, false, 0, 0, true⟩
def awL : List S39 := [awW, awR, awD0, awD1, awF, cutE]
def awO : List S60 := [⟨0, 3, 7, true, false, 0, 0, 2⟩, ⟨1, 3, 7, false, false, 0, 1, 3⟩, ⟨2, 0, 0, false, true, 0, 4, -1⟩]
theorem aw_parse : parseP awL = some (awO, 1) := by rfl
theorem aw_ops : opsP awL = (awO, 0) := by unfold opsP; rw [aw_parse]
theorem aw_pend : pendP awL = [] := by
  unfold pendP
  rw [aw_parse]
  have h : awO.filter (pendB (cutsN awL)) = [] := by decide
  simp only [h, List.map_nil, List.mergeSort_nil]
theorem CallPost.good {w : World} {base p : Nat} {ok : Nat → Prop} {es cs : List S39} {os : List Bool} {e : S39} {r : Ending} {w' : World} (h : CallPost w base p ok es cs os e r w') (hn : ¬ (e.f3 < 0 ∨ e.f4 < 0)) :
    r = .returned (.int .i64 cs.length) ∧ Rec w' base p ok (es ++ [callE e cs.length]) (cs ++ [callE e cs.length]) (os ++ [true]) ∧ Below base w w' ∧ Kept w w' ok := by
  unfold CallPost at h
  rwa [if_neg hn] at h
theorem aw_l2 (a b : Bool) (x y : S39) : [a, b].length = [x, y].length := rfl
theorem aw_rd0 (b : Bool) : rdOf false [true, b] 0 = true := rfl
theorem aw_rd1 (b : Bool) : rdOf false [b, true] 1 = true := rfl
theorem aw_l3 (a b d : Bool) (x y z : S39) : [a, b, d].length = [x, y, z].length := rfl
theorem aw_rd2 (a b : Bool) : rdOf false [a, b, false] 2 = false := rfl
abbrev okT : Nat → Prop := fun _ => True
set_option maxHeartbeats 4000000 in
set_option maxRecDepth 100000 in
theorem awake45_any (w : World) : Calls Try.prog 31 #[] w fun e w' => e = .returned (.bool true) ∧ Below w.heap.size w w' := by
  go_enter Try.func31, Try.ntmps31
  go_wp2_with fail
  (with_reducible refine (new_any w okT (fun _ _ => trivial)).mono ?_)
  rintro e w1 ⟨p, rfl, hR, hB⟩
  have HR := Aside0.mk hR
  have HB := Aside0.mk hB
  clear hR hB
  go_wp2_with fail
  (with_reducible refine (write_any HR.out (fun _ _ => trivial) (by simp) (by simp) (by simp) 3 7 false).mono ?_)
  intro r w2 hp
  obtain ⟨he, hR, hB, _⟩ := hp.good (by decide)
  obtain rfl : r = .returned (.int .i64 0) := he
  clear hp
  have HR2 : Aside0 (Rec w2 w.heap.size p okT [awW] [awW] [true]) := ⟨hR⟩
  have HB2 := Aside0.mk (HB.out.trans hB)
  clear hR hB HR HB
  go_wp2_with fail
  (with_reducible refine (read_any HR2.out (fun _ _ => trivial) (by simp) (by simp) (by simp) 3).mono ?_)
  intro r w3 hp
  obtain ⟨he, hR, hB, _⟩ := hp.good (by decide)
  obtain rfl : r = .returned (.int .i64 1) := he
  clear hp
  have HR3 : Aside0 (Rec w3 w.heap.size p okT [awW, awR] [awW, awR] [true, true]) := ⟨hR⟩
  have HB3 := Aside0.mk (HB2.out.trans hB)
  clear hR hB HR2 HB2
  go_wp2_with fail
  (with_reducible refine (done_ok w3 HR3.out (fun _ _ => trivial) (aw_l2 _ _ _ _) (by simp) (by simp) 0 0 (by decide) (by decide) (aw_rd0 _)).mono ?_)
  rintro r w4 ⟨rfl, hR, hB, _⟩
  have HR4 : Aside0 (Rec w4 w.heap.size p okT [awW, awR, awD0] [awW, awR] [false, true]) := ⟨hR⟩
  have HB4 := Aside0.mk (HB3.out.trans hB)
  clear hR hB HR3 HB3
  go_wp2_with fail
  (with_reducible refine (done_ok w4 HR4.out (fun _ _ => trivial) (aw_l2 _ _ _ _) (by simp) (by simp) 1 7 (by decide) (by decide) (aw_rd1 _)).mono ?_)
  rintro r w5 ⟨rfl, hR, hB, _⟩
  have HR5 : Aside0 (Rec w5 w.heap.size p okT [awW, awR, awD0, awD1] [awW, awR] [false, false]) := ⟨hR⟩
  have HB5 := Aside0.mk (HB4.out.trans hB)
  clear hR hB HR4 HB4
  go_wp2_with fail
  (with_reducible refine (flush_any HR5.out (fun _ _ => trivial) (by simp) (by simp) (by simp)).mono ?_)
  rintro r w6 ⟨he, hR, hB, _⟩
  obtain rfl : r = .returned (.int .i64 2) := he
  have HR6 : Aside0 (Rec w6 w.heap.size p okT [awW, awR, awD0, awD1, awF] [awW, awR, awF] [false, false, true]) := ⟨hR⟩
  have HB6 := Aside0.mk (HB5.out.trans hB)
  clear hR hB HR5 HB5
  go_wp2_with fail
  (with_reducible refine (rcut_any w6 HR6.out (fun _ _ => trivial) (by simp) (by simp)).mono ?_)
  rintro r w7 ⟨rfl, hR, hB, _⟩
  have HR7 : Aside0 (Rec w7 w.heap.size p okT awL [awW, awR, awF] [false, false, false]) := ⟨hR⟩
  have HB7 := Aside0.mk (HB6.out.trans hB)
  clear hR hB HR6 HB6
  go_wp2_with fail
  (with_reducible refine (events_any w7 HR7.out (by decide)).mono ?_)
  rintro r w8 ⟨v, rfl, hR, hB⟩
  obtain ⟨A, c, rfl, hc, hC⟩ := Kd.R_reads hR
  have HC8 := Aside0.mk hC
  have HB78 := Aside0.mk hB
  have HB8 := Aside0.mk (below_then HB7.out HB7.out.size hB)
  clear hR hB hC
  go_wp2_with fail
  have HOP := Aside0.mk (ops_any A c awL w8 HC8.out hc (by decide))
  rw [aw_ops] at HOP
  (with_reducible refine HOP.out.mono ?_)
  rintro r w9 ⟨v, rfl, hR, hB⟩
  obtain ⟨A2, c2, rfl, hc2, hC2⟩ := Kd.R_reads hR
  have HC9 := Aside0.mk hC2
  have HB89 := Aside0.mk hB
  clear HOP hR hB hC2
  have hl6 : (awL.length : Int) = 6 := rfl
  have hl3 : (awO.length : Int) = 3 := rfl
  go_wp2_with fail
  have HVA := Aside0.mk (valid39 A c awL w9 (Kd.C_below HC8.out HB89.out) hc (by decide))
  rw [aw_parse] at HVA
  (with_reducible refine HVA.out.mono ?_)
  rintro r w10 ⟨rfl, hB⟩
  have HB90 := Aside0.mk hB
  clear HVA hB
  obtain ⟨ad, eA, x0, x1, x2, x3, x4, x5, x6, x7⟩ := at_T60 (Kd.C_below HC9.out HB90.out) 1 (by decide) (by decide)
  obtain ⟨ad2, eA2, y0, y1, y2, y3, y4, y5, y6, y7⟩ := at_T60 (Kd.C_below HC9.out HB90.out) 2 (by decide) (by decide)
  rw [eA] at eA2
  cases eA2
  subst eA
  have x2' : w10.cell? ⟨ad.block, ad.off + 8 + 2, none⟩ = some (.int .i64 7) := x2
  have y7' : w10.cell? ⟨ad.block, ad.off + 16 + 7, none⟩ = some (.int .i64 (-1)) := y7
  clear x0 x1 x2 x3 x4 x5 x6 x7 y0 y1 y2 y3 y4 y5 y6 y7
  simp only [Option.isSome_some]
  go_wp2_with fail
  have HB10 := Aside0.mk (below_step HB89.out HB90.out)
  have HPE := Aside0.mk (pend_any sortC A c awL w10 (Kd.C_below HC8.out HB10.out) hc (by decide))
  rw [aw_pend] at HPE
  (with_reducible refine HPE.out.mono ?_)
  rintro r w11 ⟨v, rfl, hR, hB⟩
  obtain ⟨A3, c3, rfl, _, _⟩ := Kd.R_reads hR
  have HB11 := Aside0.mk (below_step HB10.out hB)
  clear hR hB HPE x2' y7'
  have HR11 := Aside0.mk (show Rec w11 w.heap.size p okT awL [awW, awR, awF] [false, false, false] from by
    obtain ⟨v1, v2, v3, h⟩ := HR7.out
    exact ⟨v1, v2, v3, h.below (below_step HB78.out HB11.out)⟩)
  have hl0 : (([] : List Int).length : Int) = 0 := rfl
  go_wp2_with fail
  (with_reducible refine (done_state w11 HR11.out (aw_l3 _ _ _ _ _ _) (by simp) 2 0 (by decide) (by decide) (aw_rd2 _ _)).mono ?_)
  rintro r w12 ⟨rfl, hB⟩
  have HB12 := Aside0.mk (below_then HB8.out HB8.out.size (below_step HB11.out hB))
  clear hB
  go_wp2
  go_ret
  exact ⟨rfl, HB12.out⟩
end Go.Proofs.Ytidghmgaaenihaa.Q

/-! part Q44 -/
namespace Go.Proofs.Ytidghmgaaenihaa.Q
open Go.RowKit Go.Proofs.YtidghmgaaenihaaW.PrintWords Go.Proofs.YtidghmgaaenihaaW.PrintLast Go.Proofs.YtidghmgaaenihaaW.PrintMore
attribute [local go_sem] max2_int min2_int max_two min_two max_three min_three max_four min_four
set_option linter.unusedVariables false
set_option linter.unusedSimpArgs false

/-! ### tegularef45_Ints: function 44 -/
def tegularef45_Ints.l0 : Nat → List Int → List Int → Int → Option (Bool)
  | 0, _, _, _ => none
  | k + 1, x0, x1, x5 => if x5 < (x0.length : Int) then (if 0 ≤ x5 then (if x5 < (x1.length : Int) then (if (rd x0 x5) = (rd x1 x5) then (tegularef45_Ints.l0 k x0 x1 (wrap64 (x5 + 1))) else (some false)) else (none)) else (none)) else (some true)
def tegularef45_Ints.f (k : Nat) (l0 : List Int) (l1 : List Int) : Option (Bool) := if (l0.length : Int) = (l1.length : Int) then (tegularef45_Ints.l0 k l0 l1 0) else (some false)
theorem tegularef45_Ints.mono_l : ∀ k, (∀ y0 y1 y2, LeO (tegularef45_Ints.l0 k y0 y1 y2) (tegularef45_Ints.l0 (k + 1) y0 y1 y2))
  | 0 => fun _ _ _ r h => by simp [tegularef45_Ints.l0] at h
  | k + 1 => by
    have ih0 := tegularef45_Ints.mono_l k
    · intro y0 y1 y2
      unfold tegularef45_Ints.l0
      repeat' first
      | (with_reducible exact ih0 _ _ _)
      | (with_reducible exact LeO.refl _)
      | (with_reducible exact LeO.none _)
      | (with_reducible refine LeO.ite ?_ ?_)
      | (with_reducible refine LeO.bind ?_ (fun _ => ?_))
      | exact ih0 _ _ _
      | exact LeO.none _
      | refine LeO.ite ?_ ?_
      | refine LeO.bind ?_ (fun _ => ?_)
theorem tegularef45_Ints.mono : ∀ a0 a1 k, LeO (tegularef45_Ints.f k a0 a1) (tegularef45_Ints.f (k + 1) a0 a1) := by
  intro a0 a1 k
  have ih0 := tegularef45_Ints.mono_l k
  unfold tegularef45_Ints.f
  repeat' first
      | (with_reducible exact ih0 _ _ _)
      | (with_reducible exact LeO.refl _)
      | (with_reducible exact LeO.none _)
      | (with_reducible refine LeO.ite ?_ ?_)
      | (with_reducible refine LeO.bind ?_ (fun _ => ?_))
      | exact ih0 _ _ _
      | exact LeO.none _
      | refine LeO.ite ?_ ?_
      | refine LeO.bind ?_ (fun _ => ?_)
end Go.Proofs.Ytidghmgaaenihaa.Q

/-! part PLaw16 -/
namespace Go.Proofs.Ytidghmgaaenihaa.Q
open Go.RowKit Go.Proofs.YtidghmgaaenihaaW.PrintWords Go.Proofs.YtidghmgaaenihaaW.PrintLast Go.Proofs.YtidghmgaaenihaaW.PrintMore
set_option linter.unusedVariables false
set_option linter.unusedSimpArgs false
theorem regs_eq (l : List S39) : regsOf l = regL (opsP l).1 := by
  unfold regsOf opsP
  cases parseP l <;> rfl
end Go.Proofs.Ytidghmgaaenihaa.Q

/-! part RRecW -/
namespace Go.Proofs.Ytidghmgaaenihaa.Q
open Go.RowKit Go.Proofs.YtidghmgaaenihaaW.PrintWords Go.Proofs.YtidghmgaaenihaaW.PrintLast Go.Proofs.YtidghmgaaenihaaW.PrintMore
set_option linter.unusedVariables false
set_option linter.unusedSimpArgs false
def RecPost (script : List S69) (w : World) (e : Ending) (w' : World) : Prop :=
  ∃ u v, e = .returned (.tuple #[u, v]) ∧ Kd.R k39 39 w' w.heap.size (fun _ => True) u (recN script script.length).1 ∧ Kd.R (Kd.int .i64) 3 w' w.heap.size (fun _ => True) v (recN script script.length).2.1 ∧ Below w.heap.size w w'
set_option maxHeartbeats 40000000 in
set_option maxRecDepth 100000 in
theorem record_ref (A : Option Addr) (c : Nat) (script : List S69) (w : World) (hr : Kd.C k69 w A script.length script) (hc : script.length ≤ c) (hok : ∀ x ∈ script, okAct45 x) (hsz : script.length ≤ 1000) :
    Calls Try.prog 35 #[.slice A script.length c] w (RecPost script w) := by
  have HR := Aside0.mk hr
  have HA := Aside0.mk hok
  clear hr hok
  go_enter Try.func35, Try.ntmps35
  go_wp2
  go_loopw [4, 5, 6, 7, 8, 9, 10, 11, 12] (fun v4 v5 v6 v7 _ _ _ _ _ wr => ∃ x : Nat, x ≤ script.length ∧ v7 = .int .i64 x ∧ v6 = .int .i64 (recN script x).2.2 ∧ Aside0 (Kd.R k39 39 wr w.heap.size (fun _ => True) v4 (recN script x).1) ∧ Aside0 (Kd.R (Kd.int .i64) 3 wr w.heap.size (fun _ => True) v5 (recN script x).2.1) ∧ Aside0 (Below w.heap.size w wr))
    (fun _ _ _ v7 _ _ _ _ _ _ => script.length - (intOf v7).toNat)
  case atStart => exact ⟨0, by omega, rfl, rfl, ⟨Kd.R_nil _ _ _ _ _⟩, ⟨Kd.R_nil _ _ _ _ _⟩, ⟨Below.refl _ _⟩⟩
  case round =>
    obtain ⟨x, hx, rfl, rfl, HL, HS, HB⟩ := hrel
    by_cases hlt : x < script.length
    · have hltb : (x : Int) < (script.length : Int) := by omega
      have hx0 : (0 : Int) ≤ x := by omega
      have hxb : (x : Int) < 1000000 := by omega
      have HN := Aside0.mk (recN_succ script hlt)
      have hll := recN_len script x hx
      obtain ⟨⟨L, RS, n⟩, HSt⟩ : ∃ s, Aside0 (recN script x = s) := ⟨_, ⟨rfl⟩⟩
      rw [HSt.out] at HL HS HN hll ⊢
      obtain ⟨ad, eA, s0, s1, s2⟩ := at_T69 (Kd.C_below HR.out HB.out) x hx0 hltb
      subst eA
      obtain ⟨a, HE⟩ : ∃ a, Aside0 (rd_T69 script (x : Int) = a) := ⟨_, ⟨rfl⟩⟩
      have HO := Aside0.mk (HA.out _ (rdT69m hx0 hltb))
      rw [HE.out] at s0 s1 s2 HO HN
      obtain ⟨k, o, v⟩ := a
      simp only [Int.toNat_natCast] at s0 s1 s2
      simp only at HL HS hll
      obtain ⟨⟨k0, k1⟩, ⟨o0, o1⟩, ⟨v0, v1⟩⟩ := HO.out
      simp only at k0 k1 o0 o1 v0 v1
      have hn0 : (0 : Int) ≤ (n : Int) := by omega
      have hn1 : (n : Int) ≤ 1000 := by omega
      have hcs : k % 8 = 0 ∨ k % 8 = 1 ∨ k % 8 = 2 ∨ k % 8 = 3 ∨ k % 8 = 4 ∨ k % 8 = 5 ∨ k % 8 = 6 ∨ k % 8 = 7 := by omega
      rcases hcs with h | h | h | h | h | h | h | h
      · have HE2 := Aside0.mk (show recE ⟨k, o, v⟩ n = ⟨1, n, false, o, 0, false⟩ by unfold recE; simp only; rw [h]; rfl)
        have HC := Aside0.mk (fun W => call_any ⟨1, n, false, o, 0, false⟩ W)
        simp only at HC
        have BKW := Aside0.mk (blk_new (wr.alloc (.cells #[.int .u8 k, .int .i8 o, .int .i8 v] 69)) (.cells #[.int .i64 1, .int .i64 n, .bool false, .int .i64 o, .int .i64 0, .bool false] 39))
        cases hcb : callR ⟨1, n, false, o, 0, false⟩ with
        | true =>
          rw [hcb] at HC
          have HN2 : Aside0 (recN script (x + 1) = (L ++ [⟨1, n, false, o, 0, false⟩], RS ++ [(n : Int)], n + 1)) := ⟨by rw [HN.out]; unfold recStep; simp only; rw [HE2.out, hcb, h]; rfl⟩
          clear hcb HN HE2
          go_wp2_with fail
          (with_reducible refine (HC.out _).mono ?_)
          rintro e w4 ⟨rfl, hB⟩
          have hbA := below_alloc (below_alloc (Below.refl wr.heap.size wr) (.cells #[.int .u8 k, .int .i8 o, .int .i8 v] 69)) (.cells #[.int .i64 1, .int .i64 n, .bool false, .int .i64 o, .int .i64 0, .bool false] 39)
          have hB0 := below_step hbA hB
          have BK4 := Aside0.mk (show w4.heap[wr.heap.size + 1]? = some (.cells #[.int .i64 1, .int .i64 n, .bool false, .int .i64 o, .int .i64 0, .bool false] 39 (0, 0)) from (by have h5 := blk_old (blk_new (wr.alloc (.cells #[.int .u8 k, .int .i8 o, .int .i8 v] 69)) (.cells #[.int .i64 1, .int .i64 n, .bool false, .int .i64 o, .int .i64 0, .bool false] 39)) hB; rwa [show (wr.alloc (.cells #[.int .u8 k, .int .i8 o, .int .i8 v] 69)).heap.size = wr.heap.size + 1 by simp] at h5))
          have HL4 := Aside0.mk (Kd.R_below HL.out hB0)
          have HS4 := Aside0.mk (Kd.R_below HS.out hB0)
          have HB4 := Aside0.mk (below_step HB.out hB0)
          have d0 : w4.cell? ⟨wr.heap.size + 1, 0, none⟩ = some (.int .i64 1) := (blk_cell BK4.out 0).trans rfl
          have d1 : w4.cell? ⟨wr.heap.size + 1, 1, none⟩ = some (.int .i64 n) := (blk_cell BK4.out 1).trans rfl
          have d2 : w4.cell? ⟨wr.heap.size + 1, 2, none⟩ = some (.bool false) := (blk_cell BK4.out 2).trans rfl
          have d3 : w4.cell? ⟨wr.heap.size + 1, 3, none⟩ = some (.int .i64 o) := (blk_cell BK4.out 3).trans rfl
          have d4 : w4.cell? ⟨wr.heap.size + 1, 4, none⟩ = some (.int .i64 0) := (blk_cell BK4.out 4).trans rfl
          have d5 : w4.cell? ⟨wr.heap.size + 1, 5, none⟩ = some (.bool false) := (blk_cell BK4.out 5).trans rfl
          clear hB hB0 hbA HL HS HB HC s0 s1 s2
          go_wp2_with (first | (at_builtin; go_loud (refine Kd.R_append k39 (w0 := w) w.heap.size rfl (.tmp 95) (.tmp 97) 22 39 (.agg #[(.int .i64 0), (.int .i64 0), (.bool false), (.int .i64 0), (.int .i64 0), (.bool false)]) 48 rfl Try.underlying22 info39 rfl (by decide) (by omega) _ L ⟨1, n, false, o, 0, false⟩ [.int .i64 1, .int .i64 n, .bool false, .int .i64 o, .int .i64 0, .bool false] (fun _ => True) (fun _ => False) rfl rfl (k39_mkM _ _ _ ⟨1, n, false, o, 0, false⟩) (fun _ hk => hk.elim) (fun _ _ => trivial) HL4.out HB4.out (below_size HB4.out) (by omega) ?_); intro va5 wa5 ho hb hg hat; have HS5 := Aside0.mk (Kd.R_over HS4.out HL4.out (by simp [Kd.int, Kd.scalar]) hg); have HL5 := Aside0.mk ho; have HB5 := Aside0.mk hb; clear ho hb hg hat) | (at_builtin; go_loud (refine Kd.R_append (Kd.int .i64) (w0 := w) w.heap.size rfl (.tmp 99) (.tmp 101) 40 3 (.int .i64 0) 8 rfl Try.underlying40 info3 rfl (by decide) (by omega) _ RS n [.int .i64 n] (fun _ => True) (fun _ => False) rfl rfl rfl (fun _ hk => hk.elim) (fun _ _ => trivial) HS5.out HB5.out (below_size HB5.out) (by omega) ?_); intro vb6 wb6 ho hb hg hat; have HL6 := Aside0.mk (Kd.R_over HL5.out HS5.out (by rw [E39]; simp) hg); have HS6 := Aside0.mk ho; have HB6 := Aside0.mk hb; clear ho hb hg hat))
          go_roundw
          case rel => exact ⟨x + 1, by omega, by first | rfl | simp, by rw [HN2.out]; simp, by rw [HN2.out]; exact HL6, by rw [HN2.out]; exact HS6, HB6⟩
          case measure => simp [intOf]; omega
        | false =>
          rw [hcb] at HC
          have HN2 : Aside0 (recN script (x + 1) = (L, RS ++ [-1], n)) := ⟨by rw [HN.out]; unfold recStep; simp only; rw [HE2.out, hcb, h]; rfl⟩
          clear hcb HN HE2
          go_wp2_with fail
          (with_reducible refine (HC.out _).mono ?_)
          rintro e w4 ⟨rfl, hB⟩
          have hB0 := below_step (below_alloc (below_alloc (Below.refl wr.heap.size wr) (.cells #[.int .u8 k, .int .i8 o, .int .i8 v] 69)) (.cells #[.int .i64 1, .int .i64 n, .bool false, .int .i64 o, .int .i64 0, .bool false] 39)) hB
          have HL4 := Aside0.mk (Kd.R_below HL.out hB0)
          have HS4 := Aside0.mk (Kd.R_below HS.out hB0)
          have HB4 := Aside0.mk (below_step HB.out hB0)
          clear hB hB0 HL HS HB HC s0 s1 s2
          go_wp2_with (at_builtin; go_loud (refine Kd.R_append (Kd.int .i64) (w0 := w) w.heap.size rfl (.tmp 92) (.tmp 93) 40 3 (.int .i64 0) 8 rfl Try.underlying40 info3 rfl (by decide) (by omega) _ RS (-1) [.int .i64 (-1)] (fun _ => True) (fun _ => False) rfl rfl rfl (fun _ hk => hk.elim) (fun _ _ => trivial) HS4.out HB4.out (below_size HB4.out) (by omega) ?_); intro vb6 wb6 ho hb hg hat; have HL6 := Aside0.mk (Kd.R_over HL4.out HS4.out (by rw [E39]; simp) hg); have HS6 := Aside0.mk ho; have HB6 := Aside0.mk hb; clear ho hb hg hat)
          go_roundw
          case rel => exact ⟨x + 1, by omega, by first | rfl | simp, by rw [HN2.out], by rw [HN2.out]; exact HL6, by rw [HN2.out]; exact HS6, HB6⟩
          case measure => simp [intOf]; omega
      · have HE2 := Aside0.mk (show recE ⟨k, o, v⟩ n = ⟨1, n, true, o, v, false⟩ by unfold recE; simp only; rw [h]; rfl)
        have HC := Aside0.mk (fun W => call_any ⟨1, n, true, o, v, false⟩ W)
        simp only at HC
        have BKW := Aside0.mk (blk_new (wr.alloc (.cells #[.int .u8 k, .int .i8 o, .int .i8 v] 69)) (.cells #[.int .i64 1, .int .i64 n, .bool true, .int .i64 o, .int .i64 v, .bool false] 39))
        cases hcb : callR ⟨1, n, true, o, v, false⟩ with
        | true =>
          rw [hcb] at HC
          have HN2 : Aside0 (recN script (x + 1) = (L ++ [⟨1, n, true, o, v, false⟩], RS ++ [(n : Int)], n + 1)) := ⟨by rw [HN.out]; unfold recStep; simp only; rw [HE2.out, hcb, h]; rfl⟩
          clear hcb HN HE2
          go_wp2_with fail
          (with_reducible refine (HC.out _).mono ?_)
          rintro e w4 ⟨rfl, hB⟩
          have hbA := below_alloc (below_alloc (Below.refl wr.heap.size wr) (.cells #[.int .u8 k, .int .i8 o, .int .i8 v] 69)) (.cells #[.int .i64 1, .int .i64 n, .bool true, .int .i64 o, .int .i64 v, .bool false] 39)
          have hB0 := below_step hbA hB
          have BK4 := Aside0.mk (show w4.heap[wr.heap.size + 1]? = some (.cells #[.int .i64 1, .int .i64 n, .bool true, .int .i64 o, .int .i64 v, .bool false] 39 (0, 0)) from (by have h5 := blk_old (blk_new (wr.alloc (.cells #[.int .u8 k, .int .i8 o, .int .i8 v] 69)) (.cells #[.int .i64 1, .int .i64 n, .bool true, .int .i64 o, .int .i64 v, .bool false] 39)) hB; rwa [show (wr.alloc (.cells #[.int .u8 k, .int .i8 o, .int .i8 v] 69)).heap.size = wr.heap.size + 1 by simp] at h5))
          have HL4 := Aside0.mk (Kd.R_below HL.out hB0)
          have HS4 := Aside0.mk (Kd.R_below HS.out hB0)
          have HB4 := Aside0.mk (below_step HB.out hB0)
          have d0 : w4.cell? ⟨wr.heap.size + 1, 0, none⟩ = some (.int .i64 1) := (blk_cell BK4.out 0).trans rfl
          have d1 : w4.cell? ⟨wr.heap.size + 1, 1, none⟩ = some (.int .i64 n) := (blk_cell BK4.out 1).trans rfl
          have d2 : w4.cell? ⟨wr.heap.size + 1, 2, none⟩ = some (.bool true) := (blk_cell BK4.out 2).trans rfl
          have d3 : w4.cell? ⟨wr.heap.size + 1, 3, none⟩ = some (.int .i64 o) := (blk_cell BK4.out 3).trans rfl
          have d4 : w4.cell? ⟨wr.heap.size + 1, 4, none⟩ = some (.int .i64 v) := (blk_cell BK4.out 4).trans rfl
          have d5 : w4.cell? ⟨wr.heap.size + 1, 5, none⟩ = some (.bool false) := (blk_cell BK4.out 5).trans rfl
          clear hB hB0 hbA HL HS HB HC s0 s1 s2
          go_wp2_with (first | (at_builtin; go_loud (refine Kd.R_append k39 (w0 := w) w.heap.size rfl (.tmp 95) (.tmp 97) 22 39 (.agg #[(.int .i64 0), (.int .i64 0), (.bool false), (.int .i64 0), (.int .i64 0), (.bool false)]) 48 rfl Try.underlying22 info39 rfl (by decide) (by omega) _ L ⟨1, n, true, o, v, false⟩ [.int .i64 1, .int .i64 n, .bool true, .int .i64 o, .int .i64 v, .bool false] (fun _ => True) (fun _ => False) rfl rfl (k39_mkM _ _ _ ⟨1, n, true, o, v, false⟩) (fun _ hk => hk.elim) (fun _ _ => trivial) HL4.out HB4.out (below_size HB4.out) (by omega) ?_); intro va5 wa5 ho hb hg hat; have HS5 := Aside0.mk (Kd.R_over HS4.out HL4.out (by simp [Kd.int, Kd.scalar]) hg); have HL5 := Aside0.mk ho; have HB5 := Aside0.mk hb; clear ho hb hg hat) | (at_builtin; go_loud (refine Kd.R_append (Kd.int .i64) (w0 := w) w.heap.size rfl (.tmp 99) (.tmp 101) 40 3 (.int .i64 0) 8 rfl Try.underlying40 info3 rfl (by decide) (by omega) _ RS n [.int .i64 n] (fun _ => True) (fun _ => False) rfl rfl rfl (fun _ hk => hk.elim) (fun _ _ => trivial) HS5.out HB5.out (below_size HB5.out) (by omega) ?_); intro vb6 wb6 ho hb hg hat; have HL6 := Aside0.mk (Kd.R_over HL5.out HS5.out (by rw [E39]; simp) hg); have HS6 := Aside0.mk ho; have HB6 := Aside0.mk hb; clear ho hb hg hat))
          go_roundw
          case rel => exact ⟨x + 1, by omega, by first | rfl | simp, by rw [HN2.out]; simp, by rw [HN2.out]; exact HL6, by rw [HN2.out]; exact HS6, HB6⟩
          case measure => simp [intOf]; omega
        | false =>
          rw [hcb] at HC
          have HN2 : Aside0 (recN script (x + 1) = (L, RS ++ [-1], n)) := ⟨by rw [HN.out]; unfold recStep; simp only; rw [HE2.out, hcb, h]; rfl⟩
          clear hcb HN HE2
          go_wp2_with fail
          (with_reducible refine (HC.out _).mono ?_)
          rintro e w4 ⟨rfl, hB⟩
          have hB0 := below_step (below_alloc (below_alloc (Below.refl wr.heap.size wr) (.cells #[.int .u8 k, .int .i8 o, .int .i8 v] 69)) (.cells #[.int .i64 1, .int .i64 n, .bool true, .int .i64 o, .int .i64 v, .bool false] 39)) hB
          have HL4 := Aside0.mk (Kd.R_below HL.out hB0)
          have HS4 := Aside0.mk (Kd.R_below HS.out hB0)
          have HB4 := Aside0.mk (below_step HB.out hB0)
          clear hB hB0 HL HS HB HC s0 s1 s2
          go_wp2_with (at_builtin; go_loud (refine Kd.R_append (Kd.int .i64) (w0 := w) w.heap.size rfl (.tmp 92) (.tmp 93) 40 3 (.int .i64 0) 8 rfl Try.underlying40 info3 rfl (by decide) (by omega) _ RS (-1) [.int .i64 (-1)] (fun _ => True) (fun _ => False) rfl rfl rfl (fun _ hk => hk.elim) (fun _ _ => trivial) HS4.out HB4.out (below_size HB4.out) (by omega) ?_); intro vb6 wb6 ho hb hg hat; have HL6 := Aside0.mk (Kd.R_over HL4.out HS4.out (by rw [E39]; simp) hg); have HS6 := Aside0.mk ho; have HB6 := Aside0.mk hb; clear ho hb hg hat)
          go_roundw
          case rel => exact ⟨x + 1, by omega, by first | rfl | simp, by rw [HN2.out], by rw [HN2.out]; exact HL6, by rw [HN2.out]; exact HS6, HB6⟩
          case measure => simp [intOf]; omega
      · have HE2 := Aside0.mk (show recE ⟨k, o, v⟩ n = ⟨1, n, true, o, v, true⟩ by unfold recE; simp only; rw [h]; rfl)
        have HC := Aside0.mk (fun W => call_any ⟨1, n, true, o, v, true⟩ W)
        simp only at HC
        have BKW := Aside0.mk (blk_new (wr.alloc (.cells #[.int .u8 k, .int .i8 o, .int .i8 v] 69)) (.cells #[.int .i64 1, .int .i64 n, .bool true, .int .i64 o, .int .i64 v, .bool true] 39))
        cases hcb : callR ⟨1, n, true, o, v, true⟩ with
        | true =>
          rw [hcb] at HC
          have HN2 : Aside0 (recN script (x + 1) = (L ++ [⟨1, n, true, o, v, true⟩], RS ++ [(n : Int)], n + 1)) := ⟨by rw [HN.out]; unfold recStep; simp only; rw [HE2.out, hcb, h]; rfl⟩
          clear hcb HN HE2
          go_wp2_with fail
          (with_reducible refine (HC.out _).mono ?_)
          rintro e w4 ⟨rfl, hB⟩
          have hbA := below_alloc (below_alloc (Below.refl wr.heap.size wr) (.cells #[.int .u8 k, .int .i8 o, .int .i8 v] 69)) (.cells #[.int .i64 1, .int .i64 n, .bool true, .int .i64 o, .int .i64 v, .bool true] 39)
          have hB0 := below_step hbA hB
          have BK4 := Aside0.mk (show w4.heap[wr.heap.size + 1]? = some (.cells #[.int .i64 1, .int .i64 n, .bool true, .int .i64 o, .int .i64 v, .bool true] 39 (0, 0)) from (by have h5 := blk_old (blk_new (wr.alloc (.cells #[.int .u8 k, .int .i8 o, .int .i8 v] 69)) (.cells #[.int .i64 1, .int .i64 n, .bool true, .int .i64 o, .int .i64 v, .bool true] 39)) hB; rwa [show (wr.alloc (.cells #[.int .u8 k, .int .i8 o, .int .i8 v] 69)).heap.size = wr.heap.size + 1 by simp] at h5))
          have HL4 := Aside0.mk (Kd.R_below HL.out hB0)
          have HS4 := Aside0.mk (Kd.R_below HS.out hB0)
          have HB4 := Aside0.mk (below_step HB.out hB0)
          have d0 : w4.cell? ⟨wr.heap.size + 1, 0, none⟩ = some (.int .i64 1) := (blk_cell BK4.out 0).trans rfl
          have d1 : w4.cell? ⟨wr.heap.size + 1, 1, none⟩ = some (.int .i64 n) := (blk_cell BK4.out 1).trans rfl
          have d2 : w4.cell? ⟨wr.heap.size + 1, 2, none⟩ = some (.bool true) := (blk_cell BK4.out 2).trans rfl
          have d3 : w4.cell? ⟨wr.heap.size + 1, 3, none⟩ = some (.int .i64 o) := (blk_cell BK4.out 3).trans rfl
          have d4 : w4.cell? ⟨wr.heap.size + 1, 4, none⟩ = some (.int .i64 v) := (blk_cell BK4.out 4).trans rfl
          have d5 : w4.cell? ⟨wr.heap.size + 1, 5, none⟩ = some (.bool true) := (blk_cell BK4.out 5).trans rfl
          clear hB hB0 hbA HL HS HB HC s0 s1 s2
          go_wp2_with (first | (at_builtin; go_loud (refine Kd.R_append k39 (w0 := w) w.heap.size rfl (.tmp 95) (.tmp 97) 22 39 (.agg #[(.int .i64 0), (.int .i64 0), (.bool false), (.int .i64 0), (.int .i64 0), (.bool false)]) 48 rfl Try.underlying22 info39 rfl (by decide) (by omega) _ L ⟨1, n, true, o, v, true⟩ [.int .i64 1, .int .i64 n, .bool true, .int .i64 o, .int .i64 v, .bool true] (fun _ => True) (fun _ => False) rfl rfl (k39_mkM _ _ _ ⟨1, n, true, o, v, true⟩) (fun _ hk => hk.elim) (fun _ _ => trivial) HL4.out HB4.out (below_size HB4.out) (by omega) ?_); intro va5 wa5 ho hb hg hat; have HS5 := Aside0.mk (Kd.R_over HS4.out HL4.out (by simp [Kd.int, Kd.scalar]) hg); have HL5 := Aside0.mk ho; have HB5 := Aside0.mk hb; clear ho hb hg hat) | (at_builtin; go_loud (refine Kd.R_append (Kd.int .i64) (w0 := w) w.heap.size rfl (.tmp 99) (.tmp 101) 40 3 (.int .i64 0) 8 rfl Try.underlying40 info3 rfl (by decide) (by omega) _ RS n [.int .i64 n] (fun _ => True) (fun _ => False) rfl rfl rfl (fun _ hk => hk.elim) (fun _ _ => trivial) HS5.out HB5.out (below_size HB5.out) (by omega) ?_); intro vb6 wb6 ho hb hg hat; have HL6 := Aside0.mk (Kd.R_over HL5.out HS5.out (by rw [E39]; simp) hg); have HS6 := Aside0.mk ho; have HB6 := Aside0.mk hb; clear ho hb hg hat))
          go_roundw
          case rel => exact ⟨x + 1, by omega, by first | rfl | simp, by rw [HN2.out]; simp, by rw [HN2.out]; exact HL6, by rw [HN2.out]; exact HS6, HB6⟩
          case measure => simp [intOf]; omega
        | false =>
          rw [hcb] at HC
          have HN2 : Aside0 (recN script (x + 1) = (L, RS ++ [-1], n)) := ⟨by rw [HN.out]; unfold recStep; simp only; rw [HE2.out, hcb, h]; rfl⟩
          clear hcb HN HE2
          go_wp2_with fail
          (with_reducible refine (HC.out _).mono ?_)
          rintro e w4 ⟨rfl, hB⟩
          have hB0 := below_step (below_alloc (below_alloc (Below.refl wr.heap.size wr) (.cells #[.int .u8 k, .int .i8 o, .int .i8 v] 69)) (.cells #[.int .i64 1, .int .i64 n, .bool true, .int .i64 o, .int .i64 v, .bool true] 39)) hB
          have HL4 := Aside0.mk (Kd.R_below HL.out hB0)
          have HS4 := Aside0.mk (Kd.R_below HS.out hB0)
          have HB4 := Aside0.mk (below_step HB.out hB0)
          clear hB hB0 HL HS HB HC s0 s1 s2
          go_wp2_with (at_builtin; go_loud (refine Kd.R_append (Kd.int .i64) (w0 := w) w.heap.size rfl (.tmp 92) (.tmp 93) 40 3 (.int .i64 0) 8 rfl Try.underlying40 info3 rfl (by decide) (by omega) _ RS (-1) [.int .i64 (-1)] (fun _ => True) (fun _ => False) rfl rfl rfl (fun _ hk => hk.elim) (fun _ _ => trivial) HS4.out HB4.out (below_size HB4.out) (by omega) ?_); intro vb6 wb6 ho hb hg hat; have HL6 := Aside0.mk (Kd.R_over HL4.out HS4.out (by rw [E39]; simp) hg); have HS6 := Aside0.mk ho; have HB6 := Aside0.mk hb; clear ho hb hg hat)
          go_roundw
          case rel => exact ⟨x + 1, by omega, by first | rfl | simp, by rw [HN2.out], by rw [HN2.out]; exact HL6, by rw [HN2.out]; exact HS6, HB6⟩
          case measure => simp [intOf]; omega
      · have HE2 := Aside0.mk (show recE ⟨k, o, v⟩ n = ⟨1, n, false, 0, 0, true⟩ by unfold recE; simp only; rw [h]; rfl)
        have HC := Aside0.mk (fun W => call_any ⟨1, n, false, 0, 0, true⟩ W)
        simp only at HC
        have BKW := Aside0.mk (blk_new (wr.alloc (.cells #[.int .u8 k, .int .i8 o, .int .i8 v] 69)) (.cells #[.int .i64 1, .int .i64 n, .bool false, .int .i64 0, .int .i64 0, .bool true] 39))
        cases hcb : callR ⟨1, n, false, 0, 0, true⟩ with
        | true =>
          rw [hcb] at HC
          have HN2 : Aside0 (recN script (x + 1) = (L ++ [⟨1, n, false, 0, 0, true⟩], RS ++ [(n : Int)], n + 1)) := ⟨by rw [HN.out]; unfold recStep; simp only; rw [HE2.out, hcb, h]; rfl⟩
          clear hcb HN HE2
          go_wp2_with fail
          (with_reducible refine (HC.out _).mono ?_)
          rintro e w4 ⟨rfl, hB⟩
          have hbA := below_alloc (below_alloc (Below.refl wr.heap.size wr) (.cells #[.int .u8 k, .int .i8 o, .int .i8 v] 69)) (.cells #[.int .i64 1, .int .i64 n, .bool false, .int .i64 0, .int .i64 0, .bool true] 39)
          have hB0 := below_step hbA hB
          have BK4 := Aside0.mk (show w4.heap[wr.heap.size + 1]? = some (.cells #[.int .i64 1, .int .i64 n, .bool false, .int .i64 0, .int .i64 0, .bool true] 39 (0, 0)) from (by have h5 := blk_old (blk_new (wr.alloc (.cells #[.int .u8 k, .int .i8 o, .int .i8 v] 69)) (.cells #[.int .i64 1, .int .i64 n, .bool false, .int .i64 0, .int .i64 0, .bool true] 39)) hB; rwa [show (wr.alloc (.cells #[.int .u8 k, .int .i8 o, .int .i8 v] 69)).heap.size = wr.heap.size + 1 by simp] at h5))
          have HL4 := Aside0.mk (Kd.R_below HL.out hB0)
          have HS4 := Aside0.mk (Kd.R_below HS.out hB0)
          have HB4 := Aside0.mk (below_step HB.out hB0)
          have d0 : w4.cell? ⟨wr.heap.size + 1, 0, none⟩ = some (.int .i64 1) := (blk_cell BK4.out 0).trans rfl
          have d1 : w4.cell? ⟨wr.heap.size + 1, 1, none⟩ = some (.int .i64 n) := (blk_cell BK4.out 1).trans rfl
          have d2 : w4.cell? ⟨wr.heap.size + 1, 2, none⟩ = some (.bool false) := (blk_cell BK4.out 2).trans rfl
          have d3 : w4.cell? ⟨wr.heap.size + 1, 3, none⟩ = some (.int .i64 0) := (blk_cell BK4.out 3).trans rfl
          have d4 : w4.cell? ⟨wr.heap.size + 1, 4, none⟩ = some (.int .i64 0) := (blk_cell BK4.out 4).trans rfl
          have d5 : w4.cell? ⟨wr.heap.size + 1, 5, none⟩ = some (.bool true) := (blk_cell BK4.out 5).trans rfl
          clear hB hB0 hbA HL HS HB HC s0 s1 s2
          go_wp2_with (first | (at_builtin; go_loud (refine Kd.R_append k39 (w0 := w) w.heap.size rfl (.tmp 95) (.tmp 97) 22 39 (.agg #[(.int .i64 0), (.int .i64 0), (.bool false), (.int .i64 0), (.int .i64 0), (.bool false)]) 48 rfl Try.underlying22 info39 rfl (by decide) (by omega) _ L ⟨1, n, false, 0, 0, true⟩ [.int .i64 1, .int .i64 n, .bool false, .int .i64 0, .int .i64 0, .bool true] (fun _ => True) (fun _ => False) rfl rfl (k39_mkM _ _ _ ⟨1, n, false, 0, 0, true⟩) (fun _ hk => hk.elim) (fun _ _ => trivial) HL4.out HB4.out (below_size HB4.out) (by omega) ?_); intro va5 wa5 ho hb hg hat; have HS5 := Aside0.mk (Kd.R_over HS4.out HL4.out (by simp [Kd.int, Kd.scalar]) hg); have HL5 := Aside0.mk ho; have HB5 := Aside0.mk hb; clear ho hb hg hat) | (at_builtin; go_loud (refine Kd.R_append (Kd.int .i64) (w0 := w) w.heap.size rfl (.tmp 99) (.tmp 101) 40 3 (.int .i64 0) 8 rfl Try.underlying40 info3 rfl (by decide) (by omega) _ RS n [.int .i64 n] (fun _ => True) (fun _ => False) rfl rfl rfl (fun _ hk => hk.elim) (fun _ _ => trivial) HS5.out HB5.out (below_size HB5.out) (by omega) ?_); intro vb6 wb6 ho hb hg hat; have HL6 := Aside0.mk (Kd.R_over HL5.out HS5.out (by rw [E39]; simp) hg); have HS6 := Aside0.mk ho; have HB6 := Aside0.mk hb; clear ho hb hg hat))
          go_roundw
          case rel => exact ⟨x + 1, by omega, by first | rfl | simp, by rw [HN2.out]; simp, by rw [HN2.out]; exact HL6, by rw [HN2.out]; exact HS6, HB6⟩
          case measure => simp [intOf]; omega
        | false =>
          rw [hcb] at HC
          have HN2 : Aside0 (recN script (x + 1) = (L, RS ++ [-1], n)) := ⟨by rw [HN.out]; unfold recStep; simp only; rw [HE2.out, hcb, h]; rfl⟩
          clear hcb HN HE2
          go_wp2_with fail
          (with_reducible refine (HC.out _).mono ?_)
          rintro e w4 ⟨rfl, hB⟩
          have hB0 := below_step (below_alloc (below_alloc (Below.refl wr.heap.size wr) (.cells #[.int .u8 k, .int .i8 o, .int .i8 v] 69)) (.cells #[.int .i64 1, .int .i64 n, .bool false, .int .i64 0, .int .i64 0, .bool true] 39)) hB
          have HL4 := Aside0.mk (Kd.R_below HL.out hB0)
          have HS4 := Aside0.mk (Kd.R_below HS.out hB0)
          have HB4 := Aside0.mk (below_step HB.out hB0)
          clear hB hB0 HL HS HB HC s0 s1 s2
          go_wp2_with (at_builtin; go_loud (refine Kd.R_append (Kd.int .i64) (w0 := w) w.heap.size rfl (.tmp 92) (.tmp 93) 40 3 (.int .i64 0) 8 rfl Try.underlying40 info3 rfl (by decide) (by omega) _ RS (-1) [.int .i64 (-1)] (fun _ => True) (fun _ => False) rfl rfl rfl (fun _ hk => hk.elim) (fun _ _ => trivial) HS4.out HB4.out (below_size HB4.out) (by omega) ?_); intro vb6 wb6 ho hb hg hat; have HL6 := Aside0.mk (Kd.R_over HL4.out HS4.out (by rw [E39]; simp) hg); have HS6 := Aside0.mk ho; have HB6 := Aside0.mk hb; clear ho hb hg hat)
          go_roundw
          case rel => exact ⟨x + 1, by omega, by first | rfl | simp, by rw [HN2.out], by rw [HN2.out]; exact HL6, by rw [HN2.out]; exact HS6, HB6⟩
          case measure => simp [intOf]; omega
      · by_cases hnp : (n : Int) > 0
        · have hnz : ¬ (n : Int) = 0 := by omega
          have HOp := Aside0.mk (show recOp ⟨k, o, v⟩ n = (o + 128) % (n : Int) by unfold recOp; simp only; rw [h]; rw [if_pos ⟨by omega, by omega⟩])
          have HN2 : Aside0 (recN script (x + 1) = (L ++ (doneR L ((o + 128) % (n : Int)) v).1, RS ++ [(doneR L ((o + 128) % (n : Int)) v).2], n)) := ⟨by rw [HN.out]; unfold recStep; simp only; rw [HOp.out, h]; rfl⟩
          have hdl := doneR_len L ((o + 128) % (n : Int)) v
          obtain ⟨A4, c4, eA4, hc4, hC4⟩ := Kd.R_reads HL.out
          have HDR := Aside0.mk (fun (W : World) (hw : Kd.C k39 W A4 L.length L) => done_ref A4 c4 L ((o + 128) % (n : Int)) v W hw hc4 (by omega))
          have HC4 := Aside0.mk (Kd.C_below hC4 (below_alloc (below_alloc (Below.refl wr.heap.size wr) (.cells #[.int .u8 k, .int .i8 o, .int .i8 v] 69)) (.cells #[.int .i64 1, .int .i64 n, .bool false, .int .i64 o, .int .i64 v, .bool false] 39)))
          have HL4 := Aside0.mk (Kd.R_alloc (Kd.R_alloc HL.out (.cells #[.int .u8 k, .int .i8 o, .int .i8 v] 69)) (.cells #[.int .i64 1, .int .i64 n, .bool false, .int .i64 o, .int .i64 v, .bool false] 39))
          have HS4 := Aside0.mk (Kd.R_alloc (Kd.R_alloc HS.out (.cells #[.int .u8 k, .int .i8 o, .int .i8 v] 69)) (.cells #[.int .i64 1, .int .i64 n, .bool false, .int .i64 o, .int .i64 v, .bool false] 39))
          have HB4 := Aside0.mk (below_alloc (below_alloc HB.out (.cells #[.int .u8 k, .int .i8 o, .int .i8 v] 69)) (.cells #[.int .i64 1, .int .i64 n, .bool false, .int .i64 o, .int .i64 v, .bool false] 39))
          rw [eA4] at HL4
          subst eA4
          obtain ⟨dl, HDL⟩ : ∃ d, Aside0 (doneR L ((o + 128) % (n : Int)) v = d) := ⟨_, ⟨rfl⟩⟩
          rw [HDL.out] at HN2 hdl HDR
          obtain ⟨D, dz⟩ := dl
          simp only at HN2 hdl HDR
          clear HN HL HS HB hC4 HOp HDL hnz
          obtain ⟨m, hm⟩ : ∃ m : Int, m = (n : Int) := ⟨_, rfl⟩
          have HMM := Aside0.mk hm
          rw [← hm] at hnp hn0 hn1 HB4 HS4 HL4 HC4 ⊢
          try rw [← hm] at HDR
          have hll2 : L.length ≤ 1000 ∧ RS.length ≤ 1000 := by omega
          clear hm hll
          have hnz2 : ¬ m = 0 := by omega
          go_upto_region 13 with fail
          go_wp2_with fail
          (with_reducible refine (HDR.out _ HC4.out).mono ?_)
          rintro e w4 ⟨u, rfl, hRd, hBd⟩
          obtain ⟨A5, c5, rfl, hc5, hC5⟩ := Kd.R_reads hRd
          have HC5 := Aside0.mk hC5
          have HL5 := Aside0.mk (Kd.R_below HL4.out hBd)
          have HS5 := Aside0.mk (Kd.R_below HS4.out hBd)
          have HB5 := Aside0.mk (below_step HB4.out hBd)
          clear hRd hBd hC5 HL4 HS4 HB4 HDR HC4
          go_wp2_with (first | (at_builtin; go_loud (refine Kd.R_append_rows k39 (Rr := k39.K w4) (w0 := w) w.heap.size rfl (.tmp 58) (.tmp 59) 22 39 (.agg #[(.int .i64 0), (.int .i64 0), (.bool false), (.int .i64 0), (.int .i64 0), (.bool false)]) 48 rfl Try.underlying22 info39 rfl (by decide) (by omega) _ L D A5 D.length c5 (fun _ => True) (fun _ => False) rfl rfl HL5.out HC5.out (fun x cs h => by obtain rfl := k39_open h; exact k39_mkM _ _ _ x) (fun _ hk => hk.elim) (fun _ _ => trivial) HB5.out (below_size HB5.out) (by omega) ?_); intro va6 wa6 ho hb hg hat; have HS6 := Aside0.mk (Kd.R_over HS5.out HL5.out (by simp [Kd.int, Kd.scalar]) hg); have HL6 := Aside0.mk ho; have HB6 := Aside0.mk hb; clear ho hb hg hat) | (at_builtin; go_loud (refine Kd.R_append (Kd.int .i64) (w0 := w) w.heap.size rfl (.tmp 61) (.tmp 63) 40 3 (.int .i64 0) 8 rfl Try.underlying40 info3 rfl (by decide) (by omega) _ RS dz [.int .i64 dz] (fun _ => True) (fun _ => False) rfl rfl rfl (fun _ hk => hk.elim) (fun _ _ => trivial) HS6.out HB6.out (below_size HB6.out) (by omega) ?_); intro vb7 wb7 ho hb hg hat; have HL7 := Aside0.mk (Kd.R_over HL6.out HS6.out (by rw [E39]; simp) hg); have HS7 := Aside0.mk ho; have HB7 := Aside0.mk hb; clear ho hb hg hat))
          go_roundw
          case rel => exact ⟨x + 1, by omega, by first | rfl | simp, by rw [HN2.out, HMM.out], by rw [HN2.out]; exact HL7, by rw [HN2.out]; exact HS7, HB7⟩
          case measure => simp [intOf]; omega
        · skip
          have HOp := Aside0.mk (show recOp ⟨k, o, v⟩ n = o by unfold recOp; simp only; rw [h]; rw [if_neg (by omega)])
          have HN2 : Aside0 (recN script (x + 1) = (L ++ (doneR L (o) v).1, RS ++ [(doneR L (o) v).2], n)) := ⟨by rw [HN.out]; unfold recStep; simp only; rw [HOp.out, h]; rfl⟩
          have hdl := doneR_len L (o) v
          obtain ⟨A4, c4, eA4, hc4, hC4⟩ := Kd.R_reads HL.out
          have HDR := Aside0.mk (fun (W : World) (hw : Kd.C k39 W A4 L.length L) => done_ref A4 c4 L (o) v W hw hc4 (by omega))
          have HC4 := Aside0.mk (Kd.C_below hC4 (below_alloc (below_alloc (Below.refl wr.heap.size wr) (.cells #[.int .u8 k, .int .i8 o, .int .i8 v] 69)) (.cells #[.int .i64 1, .int .i64 n, .bool false, .int .i64 o, .int .i64 v, .bool false] 39)))
          have HL4 := Aside0.mk (Kd.R_alloc (Kd.R_alloc HL.out (.cells #[.int .u8 k, .int .i8 o, .int .i8 v] 69)) (.cells #[.int .i64 1, .int .i64 n, .bool false, .int .i64 o, .int .i64 v, .bool false] 39))
          have HS4 := Aside0.mk (Kd.R_alloc (Kd.R_alloc HS.out (.cells #[.int .u8 k, .int .i8 o, .int .i8 v] 69)) (.cells #[.int .i64 1, .int .i64 n, .bool false, .int .i64 o, .int .i64 v, .bool false] 39))
          have HB4 := Aside0.mk (below_alloc (below_alloc HB.out (.cells #[.int .u8 k, .int .i8 o, .int .i8 v] 69)) (.cells #[.int .i64 1, .int .i64 n, .bool false, .int .i64 o, .int .i64 v, .bool false] 39))
          rw [eA4] at HL4
          subst eA4
          obtain ⟨dl, HDL⟩ : ∃ d, Aside0 (doneR L (o) v = d) := ⟨_, ⟨rfl⟩⟩
          rw [HDL.out] at HN2 hdl HDR
          obtain ⟨D, dz⟩ := dl
          simp only at HN2 hdl HDR
          clear HN HL HS HB hC4 HOp HDL
          obtain ⟨m, hm⟩ : ∃ m : Int, m = (n : Int) := ⟨_, rfl⟩
          have HMM := Aside0.mk hm
          rw [← hm] at hnp hn0 hn1 HB4 HS4 HL4 HC4 ⊢
          try rw [← hm] at HDR
          have hll2 : L.length ≤ 1000 ∧ RS.length ≤ 1000 := by omega
          clear hm hll
          go_upto_region 13 with fail
          go_wp2_with fail
          (with_reducible refine (HDR.out _ HC4.out).mono ?_)
          rintro e w4 ⟨u, rfl, hRd, hBd⟩
          obtain ⟨A5, c5, rfl, hc5, hC5⟩ := Kd.R_reads hRd
          have HC5 := Aside0.mk hC5
          have HL5 := Aside0.mk (Kd.R_below HL4.out hBd)
          have HS5 := Aside0.mk (Kd.R_below HS4.out hBd)
          have HB5 := Aside0.mk (below_step HB4.out hBd)
          clear hRd hBd hC5 HL4 HS4 HB4 HDR HC4
          go_wp2_with (first | (at_builtin; go_loud (refine Kd.R_append_rows k39 (Rr := k39.K w4) (w0 := w) w.heap.size rfl (.tmp 58) (.tmp 59) 22 39 (.agg #[(.int .i64 0), (.int .i64 0), (.bool false), (.int .i64 0), (.int .i64 0), (.bool false)]) 48 rfl Try.underlying22 info39 rfl (by decide) (by omega) _ L D A5 D.length c5 (fun _ => True) (fun _ => False) rfl rfl HL5.out HC5.out (fun x cs h => by obtain rfl := k39_open h; exact k39_mkM _ _ _ x) (fun _ hk => hk.elim) (fun _ _ => trivial) HB5.out (below_size HB5.out) (by omega) ?_); intro va6 wa6 ho hb hg hat; have HS6 := Aside0.mk (Kd.R_over HS5.out HL5.out (by simp [Kd.int, Kd.scalar]) hg); have HL6 := Aside0.mk ho; have HB6 := Aside0.mk hb; clear ho hb hg hat) | (at_builtin; go_loud (refine Kd.R_append (Kd.int .i64) (w0 := w) w.heap.size rfl (.tmp 61) (.tmp 63) 40 3 (.int .i64 0) 8 rfl Try.underlying40 info3 rfl (by decide) (by omega) _ RS dz [.int .i64 dz] (fun _ => True) (fun _ => False) rfl rfl rfl (fun _ hk => hk.elim) (fun _ _ => trivial) HS6.out HB6.out (below_size HB6.out) (by omega) ?_); intro vb7 wb7 ho hb hg hat; have HL7 := Aside0.mk (Kd.R_over HL6.out HS6.out (by rw [E39]; simp) hg); have HS7 := Aside0.mk ho; have HB7 := Aside0.mk hb; clear ho hb hg hat))
          go_roundw
          case rel => exact ⟨x + 1, by omega, by first | rfl | simp, by rw [HN2.out, HMM.out], by rw [HN2.out]; exact HL7, by rw [HN2.out]; exact HS7, HB7⟩
          case measure => simp [intOf]; omega
      · by_cases hnp : (n : Int) > 0
        · have hnz : ¬ (n : Int) = 0 := by omega
          have HOp := Aside0.mk (show recOp ⟨k, o, v⟩ n = (o + 128) % (n : Int) by unfold recOp; simp only; rw [h]; rw [if_pos ⟨by omega, by omega⟩])
          have HN2 : Aside0 (recN script (x + 1) = (L ++ (doneR L ((o + 128) % (n : Int)) v).1, RS ++ [(doneR L ((o + 128) % (n : Int)) v).2], n)) := ⟨by rw [HN.out]; unfold recStep; simp only; rw [HOp.out, h]; rfl⟩
          have hdl := doneR_len L ((o + 128) % (n : Int)) v
          obtain ⟨A4, c4, eA4, hc4, hC4⟩ := Kd.R_reads HL.out
          have HDR := Aside0.mk (fun (W : World) (hw : Kd.C k39 W A4 L.length L) => done_ref A4 c4 L ((o + 128) % (n : Int)) v W hw hc4 (by omega))
          have HC4 := Aside0.mk (Kd.C_below hC4 (below_alloc (below_alloc (Below.refl wr.heap.size wr) (.cells #[.int .u8 k, .int .i8 o, .int .i8 v] 69)) (.cells #[.int .i64 1, .int .i64 n, .bool false, .int .i64 o, .int .i64 v, .bool false] 39)))
          have HL4 := Aside0.mk (Kd.R_alloc (Kd.R_alloc HL.out (.cells #[.int .u8 k, .int .i8 o, .int .i8 v] 69)) (.cells #[.int .i64 1, .int .i64 n, .bool false, .int .i64 o, .int .i64 v, .bool false] 39))
          have HS4 := Aside0.mk (Kd.R_alloc (Kd.R_alloc HS.out (.cells #[.int .u8 k, .int .i8 o, .int .i8 v] 69)) (.cells #[.int .i64 1, .int .i64 n, .bool false, .int .i64 o, .int .i64 v, .bool false] 39))
          have HB4 := Aside0.mk (below_alloc (below_alloc HB.out (.cells #[.int .u8 k, .int .i8 o, .int .i8 v] 69)) (.cells #[.int .i64 1, .int .i64 n, .bool false, .int .i64 o, .int .i64 v, .bool false] 39))
          rw [eA4] at HL4
          subst eA4
          obtain ⟨dl, HDL⟩ : ∃ d, Aside0 (doneR L ((o + 128) % (n : Int)) v = d) := ⟨_, ⟨rfl⟩⟩
          rw [HDL.out] at HN2 hdl HDR
          obtain ⟨D, dz⟩ := dl
          simp only at HN2 hdl HDR
          clear HN HL HS HB hC4 HOp HDL hnz
          obtain ⟨m, hm⟩ : ∃ m : Int, m = (n : Int) := ⟨_, rfl⟩
          have HMM := Aside0.mk hm
          rw [← hm] at hnp hn0 hn1 HB4 HS4 HL4 HC4 ⊢
          try rw [← hm] at HDR
          have hll2 : L.length ≤ 1000 ∧ RS.length ≤ 1000 := by omega
          clear hm hll
          have hnz2 : ¬ m = 0 := by omega
          go_upto_region 13 with fail
          go_wp2_with fail
          (with_reducible refine (HDR.out _ HC4.out).mono ?_)
          rintro e w4 ⟨u, rfl, hRd, hBd⟩
          obtain ⟨A5, c5, rfl, hc5, hC5⟩ := Kd.R_reads hRd
          have HC5 := Aside0.mk hC5
          have HL5 := Aside0.mk (Kd.R_below HL4.out hBd)
          have HS5 := Aside0.mk (Kd.R_below HS4.out hBd)
          have HB5 := Aside0.mk (below_step HB4.out hBd)
          clear hRd hBd hC5 HL4 HS4 HB4 HDR HC4
          go_wp2_with (first | (at_builtin; go_loud (refine Kd.R_append_rows k39 (Rr := k39.K w4) (w0 := w) w.heap.size rfl (.tmp 58) (.tmp 59) 22 39 (.agg #[(.int .i64 0), (.int .i64 0), (.bool false), (.int .i64 0), (.int .i64 0), (.bool false)]) 48 rfl Try.underlying22 info39 rfl (by decide) (by omega) _ L D A5 D.length c5 (fun _ => True) (fun _ => False) rfl rfl HL5.out HC5.out (fun x cs h => by obtain rfl := k39_open h; exact k39_mkM _ _ _ x) (fun _ hk => hk.elim) (fun _ _ => trivial) HB5.out (below_size HB5.out) (by omega) ?_); intro va6 wa6 ho hb hg hat; have HS6 := Aside0.mk (Kd.R_over HS5.out HL5.out (by simp [Kd.int, Kd.scalar]) hg); have HL6 := Aside0.mk ho; have HB6 := Aside0.mk hb; clear ho hb hg hat) | (at_builtin; go_loud (refine Kd.R_append (Kd.int .i64) (w0 := w) w.heap.size rfl (.tmp 61) (.tmp 63) 40 3 (.int .i64 0) 8 rfl Try.underlying40 info3 rfl (by decide) (by omega) _ RS dz [.int .i64 dz] (fun _ => True) (fun _ => False) rfl rfl rfl (fun _ hk => hk.elim) (fun _ _ => trivial) HS6.out HB6.out (below_size HB6.out) (by omega) ?_); intro vb7 wb7 ho hb hg hat; have HL7 := Aside0.mk (Kd.R_over HL6.out HS6.out (by rw [E39]; simp) hg); have HS7 := Aside0.mk ho; have HB7 := Aside0.mk hb; clear ho hb hg hat))
          go_roundw
          case rel => exact ⟨x + 1, by omega, by first | rfl | simp, by rw [HN2.out, HMM.out], by rw [HN2.out]; exact HL7, by rw [HN2.out]; exact HS7, HB7⟩
          case measure => simp [intOf]; omega
        · skip
          have HOp := Aside0.mk (show recOp ⟨k, o, v⟩ n = o by unfold recOp; simp only; rw [h]; rw [if_neg (by omega)])
          have HN2 : Aside0 (recN script (x + 1) = (L ++ (doneR L (o) v).1, RS ++ [(doneR L (o) v).2], n)) := ⟨by rw [HN.out]; unfold recStep; simp only; rw [HOp.out, h]; rfl⟩
          have hdl := doneR_len L (o) v
          obtain ⟨A4, c4, eA4, hc4, hC4⟩ := Kd.R_reads HL.out
          have HDR := Aside0.mk (fun (W : World) (hw : Kd.C k39 W A4 L.length L) => done_ref A4 c4 L (o) v W hw hc4 (by omega))
          have HC4 := Aside0.mk (Kd.C_below hC4 (below_alloc (below_alloc (Below.refl wr.heap.size wr) (.cells #[.int .u8 k, .int .i8 o, .int .i8 v] 69)) (.cells #[.int .i64 1, .int .i64 n, .bool false, .int .i64 o, .int .i64 v, .bool false] 39)))
          have HL4 := Aside0.mk (Kd.R_alloc (Kd.R_alloc HL.out (.cells #[.int .u8 k, .int .i8 o, .int .i8 v] 69)) (.cells #[.int .i64 1, .int .i64 n, .bool false, .int .i64 o, .int .i64 v, .bool false] 39))
          have HS4 := Aside0.mk (Kd.R_alloc (Kd.R_alloc HS.out (.cells #[.int .u8 k, .int .i8 o, .int .i8 v] 69)) (.cells #[.int .i64 1, .int .i64 n, .bool false, .int .i64 o, .int .i64 v, .bool false] 39))
          have HB4 := Aside0.mk (below_alloc (below_alloc HB.out (.cells #[.int .u8 k, .int .i8 o, .int .i8 v] 69)) (.cells #[.int .i64 1, .int .i64 n, .bool false, .int .i64 o, .int .i64 v, .bool false] 39))
          rw [eA4] at HL4
          subst eA4
          obtain ⟨dl, HDL⟩ : ∃ d, Aside0 (doneR L (o) v = d) := ⟨_, ⟨rfl⟩⟩
          rw [HDL.out] at HN2 hdl HDR
          obtain ⟨D, dz⟩ := dl
          simp only at HN2 hdl HDR
          clear HN HL HS HB hC4 HOp HDL
          obtain ⟨m, hm⟩ : ∃ m : Int, m = (n : Int) := ⟨_, rfl⟩
          have HMM := Aside0.mk hm
          rw [← hm] at hnp hn0 hn1 HB4 HS4 HL4 HC4 ⊢
          try rw [← hm] at HDR
          have hll2 : L.length ≤ 1000 ∧ RS.length ≤ 1000 := by omega
          clear hm hll
          go_upto_region 13 with fail
          go_wp2_with fail
          (with_reducible refine (HDR.out _ HC4.out).mono ?_)
          rintro e w4 ⟨u, rfl, hRd, hBd⟩
          obtain ⟨A5, c5, rfl, hc5, hC5⟩ := Kd.R_reads hRd
          have HC5 := Aside0.mk hC5
          have HL5 := Aside0.mk (Kd.R_below HL4.out hBd)
          have HS5 := Aside0.mk (Kd.R_below HS4.out hBd)
          have HB5 := Aside0.mk (below_step HB4.out hBd)
          clear hRd hBd hC5 HL4 HS4 HB4 HDR HC4
          go_wp2_with (first | (at_builtin; go_loud (refine Kd.R_append_rows k39 (Rr := k39.K w4) (w0 := w) w.heap.size rfl (.tmp 58) (.tmp 59) 22 39 (.agg #[(.int .i64 0), (.int .i64 0), (.bool false), (.int .i64 0), (.int .i64 0), (.bool false)]) 48 rfl Try.underlying22 info39 rfl (by decide) (by omega) _ L D A5 D.length c5 (fun _ => True) (fun _ => False) rfl rfl HL5.out HC5.out (fun x cs h => by obtain rfl := k39_open h; exact k39_mkM _ _ _ x) (fun _ hk => hk.elim) (fun _ _ => trivial) HB5.out (below_size HB5.out) (by omega) ?_); intro va6 wa6 ho hb hg hat; have HS6 := Aside0.mk (Kd.R_over HS5.out HL5.out (by simp [Kd.int, Kd.scalar]) hg); have HL6 := Aside0.mk ho; have HB6 := Aside0.mk hb; clear ho hb hg hat) | (at_builtin; go_loud (refine Kd.R_append (Kd.int .i64) (w0 := w) w.heap.size rfl (.tmp 61) (.tmp 63) 40 3 (.int .i64 0) 8 rfl Try.underlying40 info3 rfl (by decide) (by omega) _ RS dz [.int .i64 dz] (fun _ => True) (fun _ => False) rfl rfl rfl (fun _ hk => hk.elim) (fun _ _ => trivial) HS6.out HB6.out (below_size HB6.out) (by omega) ?_); intro vb7 wb7 ho hb hg hat; have HL7 := Aside0.mk (Kd.R_over HL6.out HS6.out (by rw [E39]; simp) hg); have HS7 := Aside0.mk ho; have HB7 := Aside0.mk hb; clear ho hb hg hat))
          go_roundw
          case rel => exact ⟨x + 1, by omega, by first | rfl | simp, by rw [HN2.out, HMM.out], by rw [HN2.out]; exact HL7, by rw [HN2.out]; exact HS7, HB7⟩
          case measure => simp [intOf]; omega
      · skip
        have HOp := Aside0.mk (show recOp ⟨k, o, v⟩ n = o by unfold recOp; simp only; rw [h]; rw [if_neg (by omega)])
        have HN2 : Aside0 (recN script (x + 1) = (L ++ (doneR L (o) v).1, RS ++ [(doneR L (o) v).2], n)) := ⟨by rw [HN.out]; unfold recStep; simp only; rw [HOp.out, h]; rfl⟩
        have hdl := doneR_len L (o) v
        obtain ⟨A4, c4, eA4, hc4, hC4⟩ := Kd.R_reads HL.out
        have HDR := Aside0.mk (fun (W : World) (hw : Kd.C k39 W A4 L.length L) => done_ref A4 c4 L (o) v W hw hc4 (by omega))
        have HC4 := Aside0.mk (Kd.C_below hC4 (below_alloc (below_alloc (Below.refl wr.heap.size wr) (.cells #[.int .u8 k, .int .i8 o, .int .i8 v] 69)) (.cells #[.int .i64 1, .int .i64 n, .bool false, .int .i64 o, .int .i64 v, .bool false] 39)))
        have HL4 := Aside0.mk (Kd.R_alloc (Kd.R_alloc HL.out (.cells #[.int .u8 k, .int .i8 o, .int .i8 v] 69)) (.cells #[.int .i64 1, .int .i64 n, .bool false, .int .i64 o, .int .i64 v, .bool false] 39))
        have HS4 := Aside0.mk (Kd.R_alloc (Kd.R_alloc HS.out (.cells #[.int .u8 k, .int .i8 o, .int .i8 v] 69)) (.cells #[.int .i64 1, .int .i64 n, .bool false, .int .i64 o, .int .i64 v, .bool false] 39))
        have HB4 := Aside0.mk (below_alloc (below_alloc HB.out (.cells #[.int .u8 k, .int .i8 o, .int .i8 v] 69)) (.cells #[.int .i64 1, .int .i64 n, .bool false, .int .i64 o, .int .i64 v, .bool false] 39))
        rw [eA4] at HL4
        subst eA4
        obtain ⟨dl, HDL⟩ : ∃ d, Aside0 (doneR L (o) v = d) := ⟨_, ⟨rfl⟩⟩
        rw [HDL.out] at HN2 hdl HDR
        obtain ⟨D, dz⟩ := dl
        simp only at HN2 hdl HDR
        clear HN HL HS HB hC4 HOp HDL
        go_upto_region 13 with fail
        go_wp2_with fail
        (with_reducible refine (HDR.out _ HC4.out).mono ?_)
        rintro e w4 ⟨u, rfl, hRd, hBd⟩
        obtain ⟨A5, c5, rfl, hc5, hC5⟩ := Kd.R_reads hRd
        have HC5 := Aside0.mk hC5
        have HL5 := Aside0.mk (Kd.R_below HL4.out hBd)
        have HS5 := Aside0.mk (Kd.R_below HS4.out hBd)
        have HB5 := Aside0.mk (below_step HB4.out hBd)
        clear hRd hBd hC5 HL4 HS4 HB4 HDR HC4
        go_wp2_with (first | (at_builtin; go_loud (refine Kd.R_append_rows k39 (Rr := k39.K w4) (w0 := w) w.heap.size rfl (.tmp 58) (.tmp 59) 22 39 (.agg #[(.int .i64 0), (.int .i64 0), (.bool false), (.int .i64 0), (.int .i64 0), (.bool false)]) 48 rfl Try.underlying22 info39 rfl (by decide) (by omega) _ L D A5 D.length c5 (fun _ => True) (fun _ => False) rfl rfl HL5.out HC5.out (fun x cs h => by obtain rfl := k39_open h; exact k39_mkM _ _ _ x) (fun _ hk => hk.elim) (fun _ _ => trivial) HB5.out (below_size HB5.out) (by omega) ?_); intro va6 wa6 ho hb hg hat; have HS6 := Aside0.mk (Kd.R_over HS5.out HL5.out (by simp [Kd.int, Kd.scalar]) hg); have HL6 := Aside0.mk ho; have HB6 := Aside0.mk hb; clear ho hb hg hat) | (at_builtin; go_loud (refine Kd.R_append (Kd.int .i64) (w0 := w) w.heap.size rfl (.tmp 61) (.tmp 63) 40 3 (.int .i64 0) 8 rfl Try.underlying40 info3 rfl (by decide) (by omega) _ RS dz [.int .i64 dz] (fun _ => True) (fun _ => False) rfl rfl rfl (fun _ hk => hk.elim) (fun _ _ => trivial) HS6.out HB6.out (below_size HB6.out) (by omega) ?_); intro vb7 wb7 ho hb hg hat; have HL7 := Aside0.mk (Kd.R_over HL6.out HS6.out (by rw [E39]; simp) hg); have HS7 := Aside0.mk ho; have HB7 := Aside0.mk hb; clear ho hb hg hat))
        go_roundw
        case rel => exact ⟨x + 1, by omega, by first | rfl | simp, by rw [HN2.out], by rw [HN2.out]; exact HL7, by rw [HN2.out]; exact HS7, HB7⟩
        case measure => simp [intOf]; omega
      · have HN2 : Aside0 (recN script (x + 1) = (L ++ [cutE], RS ++ [0], n)) := ⟨by rw [HN.out]; unfold recStep; simp only; rw [h]; rfl⟩
        have HL4 := Aside0.mk (Kd.R_alloc (Kd.R_alloc HL.out (.cells #[.int .u8 k, .int .i8 o, .int .i8 v] 69)) (.cells #[.int .i64 1, .int .i64 n, .bool false, .int .i64 o, .int .i64 v, .bool false] 39))
        have HS4 := Aside0.mk (Kd.R_alloc (Kd.R_alloc HS.out (.cells #[.int .u8 k, .int .i8 o, .int .i8 v] 69)) (.cells #[.int .i64 1, .int .i64 n, .bool false, .int .i64 o, .int .i64 v, .bool false] 39))
        have HB4 := Aside0.mk (below_alloc (below_alloc HB.out (.cells #[.int .u8 k, .int .i8 o, .int .i8 v] 69)) (.cells #[.int .i64 1, .int .i64 n, .bool false, .int .i64 o, .int .i64 v, .bool false] 39))
        clear HN HL HS HB
        go_upto_region 25 with fail
        generalize ((wr.alloc (.cells #[.int .u8 k, .int .i8 o, .int .i8 v] 69)).alloc (.cells #[.int .i64 1, .int .i64 n, .bool false, .int .i64 o, .int .i64 v, .bool false] 39)) = W at HL4 HS4 HB4 ⊢
        go_wp2_with (first | (at_builtin; go_loud (refine Kd.R_append k39 (w0 := w) w.heap.size rfl (.tmp 82) (.tmp 84) 22 39 (.agg #[(.int .i64 0), (.int .i64 0), (.bool false), (.int .i64 0), (.int .i64 0), (.bool false)]) 48 rfl Try.underlying22 info39 rfl (by decide) (by omega) _ L cutE [.int .i64 3, .int .i64 0, .bool false, .int .i64 0, .int .i64 0, .bool false] (fun _ => True) (fun _ => False) rfl rfl (k39_mkM _ _ _ cutE) (fun _ hk => hk.elim) (fun _ _ => trivial) HL4.out HB4.out (below_size HB4.out) (by omega) ?_); intro va5 wa5 ho hb hg hat; have HS5 := Aside0.mk (Kd.R_over HS4.out HL4.out (by simp [Kd.int, Kd.scalar]) hg); have HL5 := Aside0.mk ho; have HB5 := Aside0.mk hb; clear ho hb hg hat) | (at_builtin; go_loud (refine Kd.R_append (Kd.int .i64) (w0 := w) w.heap.size rfl (.tmp 86) (.tmp 87) 40 3 (.int .i64 0) 8 rfl Try.underlying40 info3 rfl (by decide) (by omega) _ RS 0 [.int .i64 0] (fun _ => True) (fun _ => False) rfl rfl rfl (fun _ hk => hk.elim) (fun _ _ => trivial) HS5.out HB5.out (below_size HB5.out) (by omega) ?_); intro vb6 wb6 ho hb hg hat; have HL6 := Aside0.mk (Kd.R_over HL5.out HS5.out (by rw [E39]; simp) hg); have HS6 := Aside0.mk ho; have HB6 := Aside0.mk hb; clear ho hb hg hat))
        go_roundw
        case rel => exact ⟨x + 1, by omega, by first | rfl | simp, by rw [HN2.out], by rw [HN2.out]; exact HL6, by rw [HN2.out]; exact HS6, HB6⟩
        case measure => simp [intOf]; omega
    · obtain rfl : x = script.length := by omega
      go_wp2
      go_ret2
      exact ⟨_, _, rfl, HL.out, HS.out, HB.out⟩
end Go.Proofs.Ytidghmgaaenihaa.Q

/-! part RRec -/
namespace Go.Proofs.Ytidghmgaaenihaa.Q
open Go.RowKit Go.Proofs.YtidghmgaaenihaaW.PrintWords Go.Proofs.YtidghmgaaenihaaW.PrintLast Go.Proofs.YtidghmgaaenihaaW.PrintMore
set_option linter.unusedVariables false
set_option linter.unusedSimpArgs false
def okAll (l : List S69) : Bool := l.all (fun x => decide ((0 ≤ x.f0 ∧ x.f0 < 256) ∧ (-128 ≤ x.f1 ∧ x.f1 < 128) ∧ (-128 ≤ x.f2 ∧ x.f2 < 128)))
theorem okAll_iff (l : List S69) : okAll l = true ↔ ∀ x ∈ l, okAct45 x := by
  unfold okAll
  rw [List.all_eq_true]
  exact forall_congr' (fun x => forall_congr' (fun _ => decide_eq_true_iff))
def tegularef45_Record.f (l : List S69) : Option (List S39 × List Int) := if l.length ≤ 1000 ∧ okAll l = true then some ((recN l l.length).1, (recN l l.length).2.1) else none
theorem record_f (l : List S69) (hok : ∀ x ∈ l, okAct45 x) (h : l.length ≤ 1000) : tegularef45_Record.f l = some ((recN l l.length).1, (recN l l.length).2.1) := if_pos ⟨h, (okAll_iff l).2 hok⟩
theorem tegularef45_Record.calls (A0 : Option Addr) (c0 : Nat) (l0 : List S69) (r1 : List S39) (r2 : List Int) (w : World) (hr0 : Kd.C k69 w A0 l0.length l0) (hc0 : l0.length ≤ c0) (h : tegularef45_Record.f l0 = some (r1, r2)) :
    Calls Try.prog 35 #[.slice A0 l0.length c0] w fun e w' => ∃ v0_ v1_ : Value, e = .returned (.tuple #[v0_, v1_]) ∧ Kd.R k39 39 w' w.heap.size (fun _ => True) v0_ r1 ∧ Kd.R (Kd.int .i64) 3 w' w.heap.size (fun _ => True) v1_ r2 ∧ Below w.heap.size w w' := by
  unfold tegularef45_Record.f at h
  split at h
  · rename_i hh
    have e := Option.some.inj h
    obtain ⟨e1, e2⟩ := Prod.mk.inj e
    refine (record_ref A0 c0 l0 w hr0 hc0 ((okAll_iff l0).1 hh.2) hh.1).mono ?_
    rintro e w' ⟨u, v, he, h1, h2, h3⟩
    rw [e1] at h1
    rw [e2] at h2
    exact ⟨u, v, he, h1, h2, h3⟩
  · cases h
end Go.Proofs.Ytidghmgaaenihaa.Q

/-! part PLaw17 -/
namespace Go.Proofs.Ytidghmgaaenihaa.Q
open Go.RowKit Go.Proofs.YtidghmgaaenihaaW.PrintWords Go.Proofs.YtidghmgaaenihaaW.PrintLast Go.Proofs.YtidghmgaaenihaaW.PrintMore
set_option linter.unusedVariables false
set_option linter.unusedSimpArgs false
def cntR (ops : List S60) (x : Nat) : Nat := ((ops.take x).filter regB).length
theorem cntR_succ {ops : List S60} {x : Nat} (hx : x < ops.length) : cntR ops (x + 1) = if regB (opAt ops x) = true then cntR ops x + 1 else cntR ops x := by
  unfold cntR
  rw [List.take_succ_eq_append_getElem hx, List.filter_append, ← opAt_get hx]
  cases hb : regB (opAt ops x) <;> simp [hb]
theorem cntR_le (ops : List S60) (x : Nat) : cntR ops x ≤ x := by
  unfold cntR
  have h1 := List.length_filter_le regB (ops.take x)
  have h2 : (ops.take x).length ≤ x := List.length_take_le _ _
  omega
theorem cntR_all (ops : List S60) : cntR ops ops.length = (ops.filter regB).length := by unfold cntR; rw [List.take_length]
theorem cntR_mono (ops : List S60) (x : Nat) : cntR ops x ≤ (ops.filter regB).length := ((List.take_sublist _ _).filter _).length_le
def sumP (ops : List S60) (regs : List Int) (x : Nat) : Nat := ((regs.take x).map (cntP ops)).sum
theorem sumP_succ {ops : List S60} {regs : List Int} {x : Nat} (hx : x < regs.length) : sumP ops regs (x + 1) = sumP ops regs x + cntP ops (rd regs (x : Int)) := by
  unfold sumP
  rw [List.take_succ_eq_append_getElem hx, List.map_append, List.sum_append, rdI_at (by omega) (by omega)]
  simp
theorem sumP_le (ops : List S60) (regs : List Int) (x : Nat) : sumP ops regs x ≤ x * ops.length := by
  induction x with
  | zero => simp [sumP]
  | succ x ih =>
    by_cases hx : x < regs.length
    · rw [sumP_succ hx, Nat.succ_mul]
      have : cntP ops (rd regs (x : Int)) ≤ ops.length := List.length_filter_le _ _
      omega
    · have : sumP ops regs (x + 1) = sumP ops regs x := by unfold sumP; rw [List.take_of_length_le (by omega), List.take_of_length_le (by omega)]
      rw [this, Nat.succ_mul]; omega
theorem split_len (l : List S39) (r : Int) : (splitL l r).length ≤ l.length := by
  unfold splitL; split
  · exact List.length_filter_le _ _
  · simp
set_option maxHeartbeats 8000000 in
set_option maxRecDepth 100000 in
theorem law17_walk (A : Option Addr) (c : Nat) (script : List S69) (w : World) (hr : Kd.C k69 w A script.length script) (hc : script.length ≤ c) (hok : ∀ x ∈ script, okAct45 x) :
    Calls Try.prog 17 #[.slice A script.length c] w fun e w' => e = .returned (.bool true) ∧ Below w.heap.size w w' := by
  have HR := Aside0.mk hr
  have HA := Aside0.mk hok
  clear hr hok
  have hlen : script.length ≤ 9223372036854775807 := HR.out.2.1
  by_cases hbig : script.length > 40
  · have hb2 : (script.length : Int) > 40 := by omega
    go_enter Try.func17, Try.ntmps17
    go_wp2_with (go_at_call 31; (with_reducible refine (awake45_any _).mono ?_); rintro e w1 ⟨rfl, hB⟩)
    go_ret
    exact ⟨rfl, hB⟩
  · have hb2 : ¬ (script.length : Int) > 40 := by omega
    have hRL := (recN_len script script.length (Nat.le_refl _)).1
    have hVL := rec_valid script
    have hRG := rec_regs HA.out script.length (Nat.le_refl _)
    have HRF := Aside0.mk (record_f script HA.out (by omega))
    obtain ⟨L, hL⟩ : ∃ L, (recN script script.length).1 = L := ⟨_, rfl⟩
    obtain ⟨RS, hRS⟩ : ∃ RS, (recN script script.length).2.1 = RS := ⟨_, rfl⟩
    rw [hL] at hRL hVL hRG HRF
    rw [hRS] at HRF
    clear hL hRS
    obtain ⟨⟨ops, era⟩, hP⟩ := Option.isSome_iff_exists.1 hVL
    have hol : ops.length ≤ L.length := (ptake_inv L L.length hP).len
    have HOF : Aside0 (history_Ops.f L = some (ops, 0)) := ⟨by unfold history_Ops.f opsP; rw [if_pos (by omega), hP]⟩
    have HWF := Aside0.mk (show ∀ s, parseP L = some s → ∀ o ∈ s.1, (Lit.int .i64 o.f1).wf = true from by
      intro s hs o ho
      have hc := (ptake_inv L L.length hs).call o ho
      have hb := hRG (rd_T39 L o.f6) (by rw [rd39_at hc.1 hc.2.1]; exact List.getElem_mem _)
      rw [(call_event hs ho).2.2.2.1] at hb
      have e1 : IntKind.i64.min = -9223372036854775808 := by decide
      have e2 : IntKind.i64.max = 9223372036854775807 := by decide
      have : IntKind.i64.min ≤ o.f1 ∧ o.f1 ≤ IntKind.i64.max := by omega
      simpa [Lit.wf] using this)
    have HRS := Aside0.mk (show regsOf L = regL ops by rw [regs_eq]; unfold opsP; rw [hP])
    have HPT := Aside0.mk (fun r => part_of hP r)
    have HAP := Aside0.mk (fun (regs : List Int) (h : SetOf regs (regL ops)) => all_parts h)
    clear hP hVL hRG
    go_enter Try.func17, Try.ntmps17
    go_wp2_with fail
    (with_reducible refine (awake45_any _).mono ?_)
    rintro e w1 ⟨rfl, hB⟩
    have HB1 := Aside0.mk hB
    clear hB
    go_wp2_with fail
    (with_reducible refine (tegularef45_Record.calls A c script L RS w1 (Kd.C_below HR.out HB1.out) hc HRF.out).mono ?_)
    rintro e w2 ⟨u, v, rfl, hU, hV, hB⟩
    obtain ⟨A2, c2, rfl, hc2, hC2⟩ := Kd.R_reads hU
    have HB2 := Aside0.mk (below_step HB1.out hB)
    have HC2 := Aside0.mk hC2
    clear hU hV hB hC2
    go_wp2_with fail
    (with_reducible refine (history_Ops.calls A2 c2 L ops 0 w2 HC2.out hc2 HOF.out).mono ?_)
    rintro e w3 ⟨v3, rfl, hV, hB⟩
    obtain ⟨A3, c3, rfl, hc3, hC3⟩ := Kd.R_reads hV
    have HB3 := Aside0.mk (below_step HB2.out hB)
    have HC3 := Aside0.mk hC3
    have HC2b := Aside0.mk (Kd.C_below HC2.out hB)
    clear hV hB hC3 HC2
    go_wp2_with fail
    (with_reducible refine (regs_any A2 c2 L w3 HC2b.out hc2 (by omega) HWF.out).mono ?_)
    rintro e w4 ⟨v4, R, rfl, hV4, hS4, hL4, hB⟩
    obtain ⟨A4, c4, rfl, hc4, hC4⟩ := Kd.R_reads hV4
    have HB4 := Aside0.mk (below_step HB3.out hB)
    have HC4 := Aside0.mk hC4
    have HC24 := Aside0.mk (Kd.C_below HC2b.out hB)
    have HC34 := Aside0.mk (Kd.C_below HC3.out hB)
    have HSU := Aside0.mk (HAP.out R (by rw [← HRS.out]; exact hS4))
    clear hV4 hB hC4 hS4 HC2b HC3 HAP
    have hops : ops.length ≤ 40 := by omega
    have hRl : R.length ≤ 40 := by omega
    go_wp2
    go_loopw [8, 9, 10, 11, 12, 13] (fun v8 v9 _ _ _ _ wr => ∃ x : Nat, x ≤ R.length ∧ v9 = .int .i64 x ∧ v8 = .int .i64 (sumP ops R x : Nat) ∧ Aside0 (Below w4.heap.size w4 wr))
      (fun _ v9 _ _ _ _ _ => R.length - (intOf v9).toNat)
    case atStart => exact ⟨0, by omega, rfl, by simp [sumP], ⟨Below.refl _ _⟩⟩
    case round =>
      obtain ⟨x, hx, rfl, rfl, HW⟩ := hrel
      by_cases hlt : x < R.length
      · have hltb : (x : Int) < (R.length : Int) := by omega
        have hx0 : (0 : Int) ≤ x := by omega
        have hxb : (x : Int) < 1000 := by omega
        obtain ⟨ad4, eA4, g4⟩ := Kd.at_int (Kd.C_below HC4.out HW.out) (x : Int) hx0 hltb
        subst eA4
        rw [Int.toNat_natCast] at g4
        have HSS := Aside0.mk (sumP_succ (ops := ops) hlt)
        have hsm := sumP_le ops R x
        have hsm2 : sumP ops R x ≤ 1600 := Nat.le_trans hsm (Nat.le_trans (Nat.mul_le_mul_right _ (show x ≤ 40 by omega)) (Nat.mul_le_mul_left 40 hops))
        clear hsm
        obtain ⟨r, hrd⟩ : ∃ r, rd R (x : Int) = r := ⟨_, rfl⟩
        rw [hrd] at g4 HSS
        have HRD := Aside0.mk hrd
        clear hrd
        obtain ⟨po, hp1, hp2, hp3⟩ := HPT.out r
        obtain ⟨S, hS⟩ : ∃ S, splitL L r = S := ⟨_, rfl⟩
        have HSA := Aside0.mk (fun W h => split_any A2 c2 L r W h hc2 (by omega))
        have hSl : S.length ≤ L.length := by rw [← hS]; exact split_len L r
        rw [hS] at HSA hp1
        have hpl : po.length ≤ S.length := (ptake_inv S S.length hp1).len
        have HPF : Aside0 (history_Ops.f S = some (po, 0)) := ⟨by unfold history_Ops.f opsP; rw [if_pos (by omega), hp1]⟩
        have HVS := Aside0.mk (show (parseP S).isSome = true by rw [hp1]; rfl)
        have HREG := Aside0.mk hp2
        have HCNT : Aside0 (cntR po po.length = cntP ops r) := ⟨by rw [cntR_all, hp3]⟩
        clear hp1 hp2 hp3 hS
        have hpo : po.length ≤ 40 := by omega
        go_wp2_with fail
        (with_reducible refine (HSA.out _ (Kd.C_below HC24.out HW.out)).mono ?_)
        rintro e w5 ⟨A5, m5, c5, rfl, rfl, hc5, hC5, hB⟩
        have HB5 := Aside0.mk (below_step HW.out hB)
        have HC5 := Aside0.mk hC5
        clear hB hC5
        go_wp2_with fail
        (with_reducible refine (history_Ops.calls A5 c5 S po 0 w5 HC5.out hc5 HPF.out).mono ?_)
        rintro e w6 ⟨v6, rfl, hV, hB⟩
        obtain ⟨A6, c6, rfl, hc6, hC6⟩ := Kd.R_reads hV
        have HB6 := Aside0.mk (below_step HB5.out hB)
        have HC6 := Aside0.mk hC6
        have HC56 := Aside0.mk (Kd.C_below HC5.out hB)
        clear hV hB hC6 HC5
        have HVC := Aside0.mk (valid39 A5 c5 S w6 HC56.out hc5 (by omega))
        rw [HVS.out] at HVC
        go_wp2_with fail
        (with_reducible refine HVC.out.mono ?_)
        rintro e w7 ⟨rfl, hB⟩
        have HB7 := Aside0.mk (below_step HB6.out hB)
        have HC67 := Aside0.mk (Kd.C_below HC6.out hB)
        have HC47 := Aside0.mk (Kd.C_below HC4.out HB7.out)
        clear hB HC6 HC56 HVC g4
        go_wp2
        go_loopw [8, 13] (fun v8 v13 wr => ∃ y : Nat, y ≤ po.length ∧ v13 = .int .i64 y ∧ v8 = .int .i64 ((sumP ops R x + cntR po y : Nat) : Int) ∧ Aside0 (Below w7.heap.size w7 wr))
          (fun _ v13 _ => po.length - (intOf v13).toNat)
        case atStart => exact ⟨0, by omega, rfl, by simp [cntR], ⟨Below.refl _ _⟩⟩
        case round =>
          obtain ⟨y, hy, rfl, rfl, HW2⟩ := hrel
          by_cases hlt2 : y < po.length
          · have hltb2 : (y : Int) < (po.length : Int) := by omega
            have hy0 : (0 : Int) ≤ y := by omega
            have hyb : (y : Int) < 1000 := by omega
            obtain ⟨ad6, eA6⟩ := row_some HC67.out hlt2
            subst eA6
            obtain ⟨-, g1, -, g3, g5, -⟩ := at_op (Kd.C_below HC67.out HW2.out) y hlt2
            obtain ⟨ad4', eA4', g4⟩ := Kd.at_int (Kd.C_below HC47.out HW2.out) (x : Int) hx0 hltb
            injection eA4' with eA4'
            subst eA4'
            rw [Int.toNat_natCast] at g4
            rw [HRD.out] at g4
            have HCS := Aside0.mk (cntR_succ hlt2)
            have hcl := cntR_le po y
            have HRO := Aside0.mk (HREG.out (opAt po y) (opAt_mem hlt2))
            obtain ⟨o, HOo⟩ : ∃ o, Aside0 (opAt po y = o) := ⟨_, ⟨rfl⟩⟩
            rw [HOo.out] at g1 g3 g5 HCS HRO
            obtain ⟨o0, o1, o2, o3, o4, o5, o6, o7⟩ := o
            unfold regB at HCS HRO
            simp only at g1 g3 g5 HCS HRO
            cases hrb : (o3 || !o4) with
            | false =>
              rw [hrb, if_neg (by decide)] at HCS
              obtain ⟨e3, e4⟩ : o3 = false ∧ o4 = true := by cases o3 <;> cases o4 <;> simp_all
              subst e3 e4
              clear hrb HRO
              go_wp2
              go_roundw
              case rel => exact ⟨y + 1, by omega, by first | rfl | simp, by rw [HCS.out], HW2⟩
              case measure => simp [intOf]; omega
            | true =>
              rw [hrb, if_pos rfl] at HCS
              have hro := HRO.out hrb
              subst hro
              have h34 : (o3 = true ∧ True) ∨ (o3 = false ∧ o4 = false) := by cases o3 <;> cases o4 <;> simp_all
              clear hrb HRO
              have hs1 : (0 : Int) ≤ ((sumP ops R x + cntR po y : Nat) : Int) := by omega
              have hs2 : ((sumP ops R x + cntR po y : Nat) : Int) ≤ 100000 := by omega
              rcases h34 with ⟨rfl, -⟩ | ⟨rfl, rfl⟩
              all_goals
                go_wp2
                go_quiet (fail)
                go_wp2
                go_roundw
                case rel => exact ⟨y + 1, by omega, by first | rfl | simp, by rw [HCS.out]; first | rfl | (simp; done) | (congr 1; done) | (congr 1; omega), by repeat (first | exact HW2 | (refine ⟨?_⟩) | exact HW2.out | apply below_drew | apply pw_below_drewN)⟩
                case measure => simp [intOf]; omega
          · obtain rfl : y = po.length := by omega
            have HNX := Aside0.mk (show sumP ops R x + cntR po po.length = sumP ops R (x + 1) by rw [HCNT.out, HSS.out])
            rw [HNX.out]
            have HBB := Aside0.mk (below_then HB7.out (below_size HB7.out) HW2.out)
            go_wp2
            go_roundw
            case rel => exact ⟨x + 1, by omega, by first | rfl | simp, rfl, HBB⟩
            case measure => simp [intOf]; omega
      · obtain rfl : x = R.length := by omega
        have HTOT : Aside0 (sumP ops R R.length = (ops.filter regB).length) := ⟨by unfold sumP; rw [List.take_length]; exact HSU.out⟩
        rw [HTOT.out]
        have hfl : (ops.filter regB).length ≤ ops.length := List.length_filter_le _ _
        obtain ⟨T, hT⟩ : ∃ T, (ops.filter regB).length = T := ⟨_, rfl⟩
        have HTE := Aside0.mk hT
        have HMO := Aside0.mk (fun x => cntR_mono ops x)
        rw [hT] at hfl HMO ⊢
        clear hT HTOT HSU
        go_wp2
        go_loopw [8, 14] (fun v8 v14 wz => ∃ y : Nat, y ≤ ops.length ∧ v14 = .int .i64 y ∧ v8 = .int .i64 ((T - cntR ops y : Nat) : Int) ∧ Aside0 (Below wr.heap.size wr wz))
          (fun _ v14 _ => ops.length - (intOf v14).toNat)
        case atStart => exact ⟨0, by omega, rfl, by simp [cntR], ⟨Below.refl _ _⟩⟩
        case round =>
          obtain ⟨y, hy, rfl, rfl, HW2⟩ := hrel
          by_cases hlt2 : y < ops.length
          · have hltb2 : (y : Int) < (ops.length : Int) := by omega
            have hy0 : (0 : Int) ≤ y := by omega
            have hyb : (y : Int) < 1000 := by omega
            obtain ⟨ad3, eA3⟩ := row_some HC34.out hlt2
            subst eA3
            obtain ⟨-, g1, -, g3, g5, -⟩ := at_op (Kd.C_below HC34.out (below_then HW.out (below_size HW.out) HW2.out)) y hlt2
            have HCS := Aside0.mk (cntR_succ hlt2)
            have hm1 := HMO.out (y + 1)
            obtain ⟨o, HOo⟩ : ∃ o, Aside0 (opAt ops y = o) := ⟨_, ⟨rfl⟩⟩
            rw [HOo.out] at g1 g3 g5 HCS
            obtain ⟨o0, o1, o2, o3, o4, o5, o6, o7⟩ := o
            unfold regB at HCS
            simp only at g1 g3 g5 HCS
            cases hrb : (o3 || !o4) with
            | false =>
              rw [hrb, if_neg (by decide)] at HCS
              obtain ⟨e3, e4⟩ : o3 = false ∧ o4 = true := by cases o3 <;> cases o4 <;> simp_all
              subst e3 e4
              clear hrb hm1
              go_wp2
              go_roundw
              case rel => exact ⟨y + 1, by omega, by first | rfl | simp, by rw [HCS.out], HW2⟩
              case measure => simp [intOf]; omega
            | true =>
              rw [hrb, if_pos rfl] at HCS
              rw [HCS.out] at hm1
              have h34 : (o3 = true ∧ True) ∨ (o3 = false ∧ o4 = false) := by cases o3 <;> cases o4 <;> simp_all
              clear hrb
              obtain ⟨z, hz⟩ : ∃ z, T - cntR ops y = z + 1 := ⟨T - cntR ops y - 1, by omega⟩
              have HZ := Aside0.mk (show T - cntR ops (y + 1) = z by rw [HCS.out]; omega)
              rw [hz]
              have hz2 : (z : Int) ≤ 1000 := by omega
              have hz3 : (0 : Int) ≤ (z : Int) := by omega
              clear hz hm1
              rcases h34 with ⟨rfl, -⟩ | ⟨rfl, rfl⟩
              all_goals
                go_wp2
                go_roundw
                case rel => exact ⟨y + 1, by omega, by first | rfl | simp, by rw [HZ.out], HW2⟩
                case measure => simp [intOf]; omega
          · obtain rfl : y = ops.length := by omega
            have HZ0 := Aside0.mk (show T - cntR ops ops.length = 0 by rw [cntR_all, HTE.out]; omega)
            rw [HZ0.out]
            go_wp2
            go_ret
            exact ⟨by simp, below_then (below_then HB4.out (below_size HB4.out) HW.out) (by have := below_size HB4.out; have := below_size HW.out; omega) HW2.out⟩
end Go.Proofs.Ytidghmgaaenihaa.Q

/-! part HOpen -/
namespace Go.Proofs.Ytidghmgaaenihaa.Q
open Go.RowKit Go.Proofs.YtidghmgaaenihaaW.PrintWords Go.Proofs.YtidghmgaaenihaaW.PrintLast Go.Proofs.YtidghmgaaenihaaW.PrintMore
open Go.ChangeShapes Go.WideShapes Go.Deep
set_option linter.unusedVariables false
instance : Inhabited S39 := ⟨⟨0, 0, false, 0, 0, false⟩⟩
end Go.Proofs.Ytidghmgaaenihaa.Q

/-! part HOpen2 -/
namespace Go.Proofs.Ytidghmgaaenihaa.Q
open Go.RowKit Go.Proofs.YtidghmgaaenihaaW.PrintWords Go.Proofs.YtidghmgaaenihaaW.PrintLast Go.Proofs.YtidghmgaaenihaaW.PrintMore
open Go.ChangeShapes Go.WideShapes Go.Deep Go.WideMaps
set_option linter.unusedVariables false
theorem u8_range {a : Int} (h : (Lit.int .u8 a).wf = true) : 0 ≤ a ∧ a < 256 := by
  have h2 : IntKind.u8.min ≤ a ∧ a ≤ IntKind.u8.max := by simpa [Lit.wf] using h
  have e1 : IntKind.u8.min = 0 := by decide
  have e2 : IntKind.u8.max = 255 := by decide
  omega
end Go.Proofs.Ytidghmgaaenihaa.Q

/-! part HOpen3 -/
namespace Go.Proofs.Ytidghmgaaenihaa.Q
open Go.RowKit Go.Proofs.YtidghmgaaenihaaW.PrintWords Go.Proofs.YtidghmgaaenihaaW.PrintLast Go.Proofs.YtidghmgaaenihaaW.PrintMore
open Go.ChangeShapes Go.WideShapes Go.Deep
set_option linter.unusedVariables false
theorem cellsOf69 : Try.prog.cellsOf 69 = 3 := by kernel_rfl
instance : Inhabited S69 := ⟨⟨0, 0, 0⟩⟩
theorem one69 (fs : Array Field) (h : Try.prog.underlying 69 = some (.struct fs)) : oneCellFields Try.prog fs = true := by
  rw [Try.underlying69] at h
  cases h
  kernel_rfl
theorem i8_range {a : Int} (h : (Lit.int .i8 a).wf = true) : -128 ≤ a ∧ a < 128 := by
  have h2 : IntKind.i8.min ≤ a ∧ a ≤ IntKind.i8.max := by simpa [Lit.wf] using h
  have e1 : IntKind.i8.min = -128 := by decide
  have e2 : IntKind.i8.max = 127 := by decide
  omega
set_option maxRecDepth 100000 in
theorem act_cells {H : Type} {enc : TypeId × Value → H} {w : World} {base : Nat} {spare : Nat → Bool} {held : Bool} {fuel : Nat} {cs : List Value} {x : DataW H × List MemPlace}
    (h : DataW.trod enc Try.prog w base spare held fuel 69 cs = some x) : ∃ e : S69, cs = [.int .u8 e.f0, .int .i8 e.f1, .int .i8 e.f2] ∧ okAct45 e := by
  obtain ⟨ys, n, _, _, hlen, hyl, hf⟩ := DataW.trod_struct Try.underlying69 h
  rw [cellsOf69] at hlen
  match cs, hlen with
  | [c0, c1, c2], _ =>
    match ys, hyl with
    | [y0, y1, y2], _ =>
      have hone := hone_of (one69 _ Try.underlying69)
      have g0 := hf 0 _ rfl
      obtain ⟨o0, z0⟩ := hone 0 _ rfl
      rw [o0, z0] at g0
      obtain ⟨n0, e0, -, w0⟩ := DataW.trod_int Try.underlying5 (show DataW.trod enc Try.prog w base spare held n 5 [c0] = some y0 from g0)
      have g1 := hf 1 _ rfl
      obtain ⟨o1, z1⟩ := hone 1 _ rfl
      rw [o1, z1] at g1
      obtain ⟨n1, e1, -, w1⟩ := DataW.trod_int Try.underlying67 (show DataW.trod enc Try.prog w base spare held n 67 [c1] = some y1 from g1)
      have g2 := hf 2 _ rfl
      obtain ⟨o2, z2⟩ := hone 2 _ rfl
      rw [o2, z2] at g2
      obtain ⟨n2, e2, -, w2⟩ := DataW.trod_int Try.underlying67 (show DataW.trod enc Try.prog w base spare held n 67 [c2] = some y2 from g2)
      refine ⟨⟨n0, n1, n2⟩, ?_, u8_range w0, i8_range w1, i8_range w2⟩
      simp only [List.cons.injEq, and_true] at e0 e1 e2
      rw [e0, e1, e2]
theorem open_acts45 {H : Type} {enc : TypeId × Value → H} {w : World} {base : Nat} {spare : Nat → Bool} {held : Bool} {fuel : Nat} {A : Option Addr} {len cap : Nat} {x : DataW H × List MemPlace}
    (h : DataW.trod enc Try.prog w base spare held fuel 61 [.slice A len cap] = some x) : ∃ l : List S69, l.length = len ∧ len ≤ cap ∧ Kd.C k69 w A len l ∧ ∀ x ∈ l, okAct45 x := by
  rcases open_slice Try.underlying61 h with ⟨hcs, _⟩ | ⟨a, len', cap', m, n, D, Pl, hcs, hb, hl, hm, hmm, hx, hi⟩
  · simp only [List.cons.injEq, Value.slice.injEq, and_true] at hcs
    obtain ⟨rfl, rfl, rfl⟩ := hcs
    exact ⟨[], rfl, Nat.le_refl _, ⟨rfl, by decide, fun h => absurd h (by decide)⟩, fun x hx => by cases hx⟩
  · simp only [List.cons.injEq, Value.slice.injEq, and_true] at hcs
    obtain ⟨rfl, rfl, rfl⟩ := hcs
    rw [cellsOf69] at hi
    have each : ∀ i, i < len → ∃ e : S69, okAct45 e ∧ ∀ j u, [Value.int .u8 e.f0, .int .i8 e.f1, .int .i8 e.f2][j]? = some u → w.cell? (a.add (i * 3 + j)) = some u := by
      intro i hil
      have him : i < m := by rw [hmm]; split <;> omega
      obtain ⟨cs', hc, ht⟩ := hi i him
      obtain ⟨e, rfl, hok⟩ := act_cells ht
      obtain ⟨_, _, hat⟩ := World.cells?_some hc
      refine ⟨e, hok, fun j u hj => ?_⟩
      have hj3 : j < 3 := (List.getElem?_eq_some_iff.1 hj).1
      rw [← Go.Deep.add_add, hat j hj3, hj]
    obtain ⟨q, hq⟩ := choose_lt each
    refine ⟨(List.range len).map q, by simp, hl, ⟨by simp, Nat.le_trans (Nat.le_trans hl hm) (by decide), fun _ => ⟨a, rfl, fun j p hj => ?_⟩⟩, fun x hx => ?_⟩
    · rw [List.getElem?_map] at hj
      obtain ⟨j', hj', rfl⟩ := Option.map_eq_some_iff.1 hj
      obtain ⟨hjl, e⟩ := List.getElem?_eq_some_iff.1 hj'
      rw [List.getElem_range] at e
      subst e
      rw [List.length_range] at hjl
      exact ⟨_, rfl, k69_mk w (q j), fun i u hu => (hq j hjl).2 i u hu⟩
    · obtain ⟨j, hj, rfl⟩ := List.mem_map.1 hx
      exact (hq j (List.mem_range.1 hj)).1
end Go.Proofs.Ytidghmgaaenihaa.Q
