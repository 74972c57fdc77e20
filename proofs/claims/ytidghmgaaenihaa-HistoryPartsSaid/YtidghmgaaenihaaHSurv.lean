/- The Go function durable.Survivors. -/
import Derived.Test.YtidghmgaaenihaaHCheck
namespace Go.Proofs.Ytidghmgaaenihaa.Q
open Go.RowKit Go.Proofs.YtidghmgaaenihaaW.PrintWords Go.Proofs.YtidghmgaaenihaaW.PrintLast Go.Proofs.YtidghmgaaenihaaW.PrintMore
set_option linter.unusedVariables false
set_option linter.unusedSimpArgs false

def cutsN (l : List S39) : Nat := (l.filter (fun e => e.f0 == 3)).length
def survOf (cuts : Int) (sv : List (Int × Bool)) (o : S60) : Option Int := if (o.f3 && (decide (o.f5 < cuts) && lookB sv o.f0)) = true then some o.f0 else none
def survivorsP (l : List S39) : List Int × Int := match beginP l with
  | none => ([], 1)
  | some ops => (ops.filterMap (survOf (cutsN l) (survP ops ops.length)), 0)
def durable_Survivors.f (l : List S39) : Option (List Int × Int) := if l.length ≤ 1000000 then some (survivorsP l) else none
def SurvPost (r1 : List Int) (r2 : Int) (w : World) (e : Ending) (w' : World) : Prop :=
  ∃ v0_ : Value, e = .returned (.tuple #[v0_, .int .i64 r2]) ∧ Kd.R (Kd.int .i64) 3 w' w.heap.size (fun _ => True) v0_ r1 ∧ Below w.heap.size w w'
theorem take_mapI {ops : List S60} {f : S60 → Option Int} {x : Int} (h0 : 0 ≤ x) (h : x < ops.length) : (ops.take (x + 1).toNat).filterMap f = (ops.take x.toNat).filterMap f ++ (match f (rd_T60 ops x) with | some y => [y] | none => []) := by
  rw [show (x + 1).toNat = x.toNat + 1 by omega, List.take_succ_eq_append_getElem (by omega), List.filterMap_append, rd60_at h0 h]
  cases hf : f (ops[x.toNat]'(by omega)) with
  | none => simp [hf]
  | some y => simp [hf]
theorem cuts_next {l : List S39} {x : Int} (h0 : 0 ≤ x) (h : x < l.length) : (cutsN (l.take (x + 1).toNat) : Int) = cutsN (l.take x.toNat) + if (rd_T39 l x).f0 = 3 then 1 else 0 := by
  have e : rd_T39 l x = l[x.toNat]'(by omega) := by simp [rd_T39, List.getD_eq_getElem?_getD, show x.toNat < l.length by omega]
  rw [show (x + 1).toNat = x.toNat + 1 by omega, List.take_succ_eq_append_getElem (by omega), e]
  unfold cutsN
  rw [List.filter_append, List.length_append]
  by_cases hc : (l[x.toNat]'(by omega)).f0 = 3 <;> simp [List.filter_cons, hc]
theorem cuts_le (l : List S39) (k : Nat) : cutsN (l.take k) ≤ l.length := Nat.le_trans (List.length_filter_le _ _) (by rw [List.length_take]; exact Nat.min_le_right _ _)

set_option maxHeartbeats 4000000 in
set_option maxRecDepth 100000 in
theorem surv_any (A : Option Addr) (c : Nat) (l : List S39) (w : World) (hr : Kd.C k39 w A l.length l) (hc : l.length ≤ c) (hsz : l.length ≤ 1000000) :
    Calls Try.prog 25 #[.slice A l.length c] w (SurvPost (survivorsP l).1 (survivorsP l).2 w) := by
  have HR := Aside0.mk hr
  clear hr
  go_enter Try.func25, Try.ntmps25
  go_wp2_with fail
  (with_reducible refine (begin_any A c l _ HR.out hc hsz).mono ?_)
  rintro e w1 ⟨hB, hP⟩
  have HB1 := Aside0.mk hB
  clear hB
  cases hb : beginP l with
  | none =>
    rw [hb] at hP
    simp only at hP
    subst hP
    have HP := Aside0.mk hb
    clear hb
    go_wp2
    go_ret2
    simp only [survivorsP, HP.out]
    exact ⟨_, rfl, Kd.R_nil _ _ _ _ _, HB1.out⟩
  | some ops =>
    rw [hb] at hP
    simp only at hP
    obtain ⟨g, A1, c1, B1, B2, rfl, hT⟩ := hP
    have HP := Aside0.mk hb
    have HT := Aside0.mk hT
    have hgl : g < w1.heap.size := (Array.getElem?_eq_some_iff.1 hT.blk).1
    clear hb hT
    go_wp2
    go_loopw [6, 21] (fun v6 v21 wr => ∃ x n : Int, 0 ≤ x ∧ x ≤ l.length ∧ 0 ≤ n ∧ n ≤ x ∧ v21 = .int .i64 x ∧ v6 = .int .i64 n ∧ Aside0 (n = cutsN (l.take x.toNat)) ∧ Aside0 (Below w1.heap.size w1 wr))
      (fun _ v21 _ => l.length - (intOf v21).toNat)
    case atStart => exact ⟨0, 0, by omega, by omega, by omega, by omega, rfl, rfl, ⟨rfl⟩, ⟨Below.refl _ _⟩⟩
    case round =>
      obtain ⟨x, n, hx0, hx1, hn0, hn1, rfl, rfl, HN, HW⟩ := hrel
      by_cases hlt : x < l.length
      · obtain ⟨ad, eA, s0, s1, s2, s3, s4, s5⟩ := at_T39 (Kd.C_below HR.out (below_then HB1.out (below_size HB1.out) HW.out)) x hx0 hlt
        subst eA
        have HCN := Aside0.mk (cuts_next hx0 hlt)
        obtain ⟨e, HE⟩ : ∃ e, Aside0 (rd_T39 l x = e) := ⟨_, ⟨rfl⟩⟩
        rw [HE.out] at s0 s1 s2 s3 s4 s5 HCN
        obtain ⟨e0, e1, e2, e3, e4, e5⟩ := e
        simp only at s0 s1 s2 s3 s4 s5 HCN
        by_cases h3 : e0 = 3
        · have h3' : (e0 == 3) = true := by simpa using h3
          have HC2 := Aside0.mk (show n + 1 = cutsN (l.take (x + 1).toNat) by rw [HCN.out, if_pos h3, HN.out])
          clear h3
          go_wp2
          go_roundw
          case rel => exact ⟨x + 1, n + 1, by omega, by omega, by omega, by omega, rfl, rfl, HC2, ⟨below_alloc HW.out _⟩⟩
          case measure => simp [intOf]; omega
        · have h3' : (e0 == 3) = false := by simpa using h3
          have HC2 := Aside0.mk (show n = cutsN (l.take (x + 1).toNat) by rw [HCN.out, if_neg h3, HN.out]; omega)
          clear h3
          go_wp2
          go_roundw
          case rel => exact ⟨x + 1, n, by omega, by omega, by omega, by omega, rfl, rfl, HC2, ⟨below_alloc HW.out _⟩⟩
          case measure => simp [intOf]; omega
      · obtain rfl : x = l.length := by omega
        rw [show ((l.length : Int)).toNat = l.length by omega, List.take_length] at HN
        have g0 : wr.cell? ⟨g, 0, none⟩ = some (.slice A1 ops.length c1) := (blk_cell (HT.out.below HW.out).blk 0).trans rfl
        go_wp2
        clear g0
        obtain ⟨wb, HWB⟩ : ∃ wb, Aside0 (wb = wr) := ⟨_, ⟨rfl⟩⟩
        have HTB := Aside0.mk (HT.out.below HW.out)
        have HBB := Aside0.mk (below_then HB1.out (below_size HB1.out) HW.out)
        rw [← HWB.out] at HTB HBB ⊢
        clear HW HWB
        go_loopw [9, 36] (fun v9 v36 wr => ∃ x : Int, 0 ≤ x ∧ x ≤ ops.length ∧ v36 = .int .i64 x ∧ Aside0 (Kd.R (Kd.int .i64) 3 wr wb.heap.size (fun _ => True) v9 ((ops.take x.toNat).filterMap (survOf n (survP ops ops.length)))) ∧ Aside0 (Below wb.heap.size wb wr))
          (fun _ v36 _ => ops.length - (intOf v36).toNat)
        case atStart => exact ⟨0, by omega, by omega, rfl, ⟨Kd.R_nil _ _ _ _ _⟩, ⟨Below.refl _ _⟩⟩
        case round =>
          obtain ⟨x, hx0, hx1, rfl, HO, HW⟩ := hrel
          by_cases hlt : x < ops.length
          · have hsz2 := HTB.out.size
            have hxb : x < 1000000 := by omega
            have HTW := Aside0.mk (HTB.out.below HW.out)
            obtain ⟨ad, eA, s0, s1, s2, s3, s4, s5, s6, s7⟩ := at_T60 HTW.out.row x hx0 hlt
            subst eA
            obtain ⟨o, HOo⟩ : ∃ o, Aside0 (rd_T60 ops x = o) := ⟨_, ⟨rfl⟩⟩
            rw [HOo.out] at s0 s1 s2 s3 s4 s5 s6 s7
            have HTM := Aside0.mk (take_mapI (f := survOf n (survP ops ops.length)) hx0 hlt)
            rw [HOo.out] at HTM
            have g2 : wr.cell? ⟨g, 2, none⟩ = some (.map (some B2)) := (blk_cell HTW.out.blk 2).trans rfl
            have hg : g < wr.heap.size := (Array.getElem?_eq_some_iff.1 HTW.out.blk).1
            obtain ⟨o0, o1, o2, o3, o4, o5, o6, o7⟩ := o
            simp only at s0 s1 s2 s3 s4 s5 s6 s7
            obtain ⟨b, hb⟩ : ∃ b, (o3 && (decide (o5 < n) && lookB (survP ops ops.length) o0)) = b := ⟨_, rfl⟩
            have HSO := Aside0.mk (show survOf n (survP ops ops.length) ⟨o0, o1, o2, o3, o4, o5, o6, o7⟩ = if b = true then some o0 else none by rw [survOf, hb])
            obtain ⟨lb, hlb⟩ : ∃ lb, lookB (survP ops ops.length) o0 = lb := ⟨_, rfl⟩
            have hl : ∀ k, (Instr.lookup 88 (.map (some B2)) (.int .i64 o0) false).run Try.prog ((wr.alloc (.cells #[.int .i64 o0, .int .i64 o1, .int .i64 o2, .bool o3, .bool o4, .int .i64 o5, .int .i64 o6, .int .i64 o7] 60)).drewN k) = .ok (.bool lb) ((wr.alloc (.cells #[.int .i64 o0, .int .i64 o1, .int .i64 o2, .bool o3, .bool o4, .int .i64 o5, .int .i64 o6, .int .i64 o7] 60)).drewN k) :=
              fun k => by rw [← hlb]; exact lookB_run _ (HTW.out.below (pw_below_drewN (below_alloc (Below.refl _ _) _) k)).surv HTW.out.ids o0
            rw [hlb] at hb
            clear hlb
            have LM := Aside0.mk (show ((ops.take x.toNat).filterMap (survOf n (survP ops ops.length))).length ≤ 1000000 from Nat.le_trans (List.length_filterMap_le _ _) (by simp only [List.length_take]; omega))
            have HW2 := Aside0.mk (fun k => show Below wb.heap.size wb ((wr.alloc (.cells #[.int .i64 o0, .int .i64 o1, .int .i64 o2, .bool o3, .bool o4, .int .i64 o5, .int .i64 o6, .int .i64 o7] 60)).drewN k) from pw_below_drewN (below_alloc HW.out _) k)
            have HO2 := Aside0.mk (fun k => show Kd.R (Kd.int .i64) 3 ((wr.alloc (.cells #[.int .i64 o0, .int .i64 o1, .int .i64 o2, .bool o3, .bool o4, .int .i64 o5, .int .i64 o6, .int .i64 o7] 60)).drewN k) wb.heap.size (fun _ => True) u9 _ from Kd.R_drewN (Kd.R_alloc HO.out _) k)
            cases o3 with
            | false =>
              rw [Bool.false_and] at hb
              subst hb
              go_wp2_with fail
              go_quiet (fail)
              go_wp2
              go_roundw
              case rel => exact ⟨x + 1, by omega, by omega, rfl, ⟨by rw [HTM.out, HSO.out]; simp only [Bool.false_eq_true, if_false, List.append_nil]; exact HO2.out _⟩, ⟨HW2.out _⟩⟩
              case measure => simp [intOf]; omega
            | true =>
              rw [Bool.true_and] at hb
              cases h5 : decide (o5 < n) with
              | false =>
                rw [h5, Bool.false_and] at hb
                subst hb
                go_wp2_with fail
                go_quiet (fail)
                go_wp2
                go_roundw
                case rel => exact ⟨x + 1, by omega, by omega, rfl, ⟨by rw [HTM.out, HSO.out]; simp only [Bool.false_eq_true, if_false, List.append_nil]; exact HO2.out _⟩, ⟨HW2.out _⟩⟩
                case measure => simp [intOf]; omega
              | true =>
                rw [h5, Bool.true_and] at hb
                subst hb
                cases lb with
                | false =>
                  go_wp2_with fail
                  go_quiet (fail)
                  go_wp2
                  go_roundw
                  case rel => exact ⟨x + 1, by omega, by omega, rfl, ⟨by rw [HTM.out, HSO.out]; simp only [Bool.false_eq_true, if_false, List.append_nil]; exact HO2.out _⟩, ⟨HW2.out _⟩⟩
                  case measure => simp [intOf]; omega
                | true =>
                  go_wp2_with fail
                  go_quiet (fail)
                  have hBW := HW2.out nq
                  have hOW := HO2.out nq
                  have k0 : ((wr.alloc (.cells #[.int .i64 o0, .int .i64 o1, .int .i64 o2, .bool true, .bool o4, .int .i64 o5, .int .i64 o6, .int .i64 o7] 60)).drewN nq).cell? ⟨wr.heap.size, 0, none⟩ = some (.int .i64 o0) := (blk_cell (blk_old (blk_new wr _) (pw_below_drewN (Below.refl _ _) _)) 0).trans rfl
                  generalize (wr.alloc (.cells #[.int .i64 o0, .int .i64 o1, .int .i64 o2, .bool true, .bool o4, .int .i64 o5, .int .i64 o6, .int .i64 o7] 60)).drewN nq = w2 at hBW hOW k0 ⊢
                  have HBW := Aside0.mk hBW
                  have HOW := Aside0.mk hOW
                  clear hBW hOW hl HW2 HO2 s0 s1 s2 s3 s4 s5 s6 s7
                  go_wp2_with (at_builtin; go_loud (refine Kd.R_append (Kd.int .i64) (w0 := wb) wb.heap.size rfl (.tmp 57) (.tmp 60) 40 3 (.int .i64 0) 8 rfl Try.underlying40 info3 rfl (by decide) (by omega) _ _ o0 [.int .i64 o0] (fun _ => True) (fun _ => False) rfl rfl rfl (fun _ hk => hk.elim) (fun _ _ => trivial) HOW.out HBW.out (below_size HBW.out) (by have := LM.out; omega) ?_); intro v1 w4 ho hb hg hat; have HO4 := Aside0.mk ho; have HB4 := Aside0.mk hb; clear ho hb hg hat)
                  go_roundw
                  case rel => exact ⟨x + 1, by omega, by omega, rfl, ⟨by rw [HTM.out, HSO.out]; simp only [if_true]; exact HO4.out⟩, HB4⟩
                  case measure => simp [intOf]; omega
          · obtain rfl : x = ops.length := by omega
            rw [show ((ops.length : Int)).toNat = ops.length by omega, List.take_length, HN.out] at HO
            go_wp2
            go_ret2
            simp only [survivorsP, HP.out]
            exact ⟨_, rfl, Kd.R_lower HO.out (below_size HBB.out), below_then HBB.out (below_size HBB.out) HW.out⟩
theorem durable_Survivors.calls (A0 : Option Addr) (c0 : Nat) (l0 : List S39) (r1 : List Int) (r2 : Int) (w : World) (hr0 : Kd.C k39 w A0 l0.length l0) (hc0 : l0.length ≤ c0) (h : durable_Survivors.f l0 = some (r1, r2)) :
    Calls Try.prog 25 #[.slice A0 l0.length c0] w fun e w' => ∃ v0_ : Value, e = .returned (.tuple #[v0_, .int .i64 r2]) ∧ Kd.R (Kd.int .i64) 3 w' w.heap.size (fun _ => True) v0_ r1 ∧ Below w.heap.size w w' := by
  unfold durable_Survivors.f at h
  split at h
  · rename_i hsz
    have e := Option.some.inj h
    have e1 : (survivorsP l0).1 = r1 := by rw [e]
    have e2 : (survivorsP l0).2 = r2 := by rw [e]
    have := surv_any A0 c0 l0 w hr0 hc0 hsz
    rw [e1, e2] at this
    exact this
  · cases h
end Go.Proofs.Ytidghmgaaenihaa.Q
