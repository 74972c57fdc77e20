/- The Go functions durable.Traceable and durable.Check. -/
import Derived.Test.YtidghmgaaenihaaHBegin2
namespace Go.Proofs.Ytidghmgaaenihaa.Q
open Go.RowKit Go.Proofs.YtidghmgaaenihaaW.PrintWords Go.Proofs.YtidghmgaaenihaaW.PrintLast Go.Proofs.YtidghmgaaenihaaW.PrintMore
set_option linter.unusedVariables false
set_option linter.unusedSimpArgs false

def faultOf (ops : List S60) (sv : List (Int × Bool)) (o : S60) : Option S33 := if ansB o = true then (if (judgeB ops sv o).2 = true then some (judgeB ops sv o).1 else none) else none
def checkP (l : List S39) : List S33 × Int := match beginP l with
  | none => ([], 1)
  | some ops => (ops.filterMap (faultOf ops (survP ops ops.length)), 0)
def durable_Check.f (l : List S39) : Option (List S33 × Int) := if l.length ≤ 1000000 then some (checkP l) else none
def durable_Traceable.f (l : List S39) : Option Bool := if l.length ≤ 1000000 then some (beginP l).isSome else none

set_option maxHeartbeats 1000000 in
set_option maxRecDepth 100000 in
theorem durable_Traceable.calls (A0 : Option Addr) (c0 : Nat) (l0 : List S39) (r : Bool) (w : World) (hr0 : Kd.C k39 w A0 l0.length l0) (hc0 : l0.length ≤ c0) (h : durable_Traceable.f l0 = some r) :
    Calls Try.prog 29 #[.slice A0 l0.length c0] w fun e w' => e = .returned (.bool r) ∧ Below w.heap.size w w' := by
  unfold durable_Traceable.f at h
  split at h
  · rename_i hsz
    have h := Option.some.inj h
    have HR := Aside0.mk hr0
    clear hr0
    cases hb : beginP l0 with
    | none =>
      rw [hb] at h
      have h2 : r = false := by rw [← h]; rfl
      subst h2
      have HP := Aside0.mk hb
      clear h hb
      go_enter Try.func29, Try.ntmps29
      go_wp2_with fail
      (with_reducible refine (begin_any A0 c0 l0 _ HR.out hc0 hsz).mono ?_)
      rintro e w1 ⟨hB, hP⟩
      rw [HP.out] at hP
      simp only at hP
      subst hP
      go_wp2
      go_ret
      exact ⟨rfl, hB⟩
    | some ops =>
      rw [hb] at h
      have h2 : r = true := by rw [← h]; rfl
      subst h2
      have HP := Aside0.mk hb
      clear h hb
      go_enter Try.func29, Try.ntmps29
      go_wp2_with fail
      (with_reducible refine (begin_any A0 c0 l0 _ HR.out hc0 hsz).mono ?_)
      rintro e w1 ⟨hB, hP⟩
      rw [HP.out] at hP
      simp only at hP
      obtain ⟨g, A, c, B1, B2, rfl, hT⟩ := hP
      clear hT
      go_wp2
      go_ret
      exact ⟨rfl, hB⟩
  · cases h

def CheckPost (r1 : List S33) (r2 : Int) (w : World) (e : Ending) (w' : World) : Prop :=
  ∃ v0_ : Value, e = .returned (.tuple #[v0_, .int .i64 r2]) ∧ Kd.R k33 33 w' w.heap.size (fun _ => True) v0_ r1 ∧ Below w.heap.size w w'
theorem take_map {ops : List S60} {f : S60 → Option S33} {x : Int} (h0 : 0 ≤ x) (h : x < ops.length) : (ops.take (x + 1).toNat).filterMap f = (ops.take x.toNat).filterMap f ++ (match f (rd_T60 ops x) with | some y => [y] | none => []) := by
  rw [show (x + 1).toNat = x.toNat + 1 by omega, List.take_succ_eq_append_getElem (by omega), List.filterMap_append, rd60_at h0 h]
  cases hf : f (ops[x.toNat]'(by omega)) with
  | none => simp [hf]
  | some y => simp [hf]
theorem size_alloc (w : World) (o : Obj) : (w.alloc o).heap.size = w.heap.size + 1 := by show (w.heap.push o).size = _; simp

set_option maxHeartbeats 4000000 in
set_option maxRecDepth 100000 in
theorem check_any (A : Option Addr) (c : Nat) (l : List S39) (w : World) (hr : Kd.C k39 w A l.length l) (hc : l.length ≤ c) (hsz : l.length ≤ 1000000) :
    Calls Try.prog 20 #[.slice A l.length c] w (CheckPost (checkP l).1 (checkP l).2 w) := by
  have HR := Aside0.mk hr
  clear hr
  go_enter Try.func20, Try.ntmps20
  go_wp2_with fail
  (with_reducible refine (begin_any A c l _ HR.out hc hsz).mono ?_)
  rintro e w1 ⟨hB, hP⟩
  have HB1 := Aside0.mk hB
  clear hB
  cases hb : beginP l with
  | none =>
    rw [hb] at hP
    simp only at hP
    subst hP
    have HP := Aside0.mk hb
    clear hb
    go_wp2
    go_ret2
    simp only [checkP, HP.out]
    exact ⟨_, rfl, Kd.R_nil _ _ _ _ _, HB1.out⟩
  | some ops =>
    rw [hb] at hP
    simp only at hP
    obtain ⟨g, A1, c1, B1, B2, rfl, hT⟩ := hP
    have HP := Aside0.mk hb
    have HT := Aside0.mk hT
    have g0 : w1.cell? ⟨g, 0, none⟩ = some (.slice A1 ops.length c1) := (blk_cell hT.blk 0).trans rfl
    have hgl : g < w1.heap.size := (Array.getElem?_eq_some_iff.1 hT.blk).1
    clear hb hT
    go_wp2
    clear g0
    go_loopw [6, 23] (fun v6 v23 wr => ∃ x : Int, 0 ≤ x ∧ x ≤ ops.length ∧ v23 = .int .i64 x ∧ Aside0 (Kd.R k33 33 wr w1.heap.size (fun _ => True) v6 ((ops.take x.toNat).filterMap (faultOf ops (survP ops ops.length)))) ∧ Aside0 (Below w1.heap.size w1 wr))
      (fun _ v23 _ => ops.length - (intOf v23).toNat)
    case atStart => exact ⟨0, by omega, by omega, rfl, ⟨Kd.R_nil _ _ _ _ _⟩, ⟨Below.refl _ _⟩⟩
    case round =>
      obtain ⟨x, hx0, hx1, rfl, HO, HW⟩ := hrel
      by_cases hlt : x < ops.length
      · have hsz2 := HT.out.size
        have hxb : x < 1000000 := by omega
        have HTW := Aside0.mk (HT.out.below HW.out)
        obtain ⟨ad, eA, s0, s1, s2, s3, s4, s5, s6, s7⟩ := at_T60 HTW.out.row x hx0 hlt
        subst eA
        obtain ⟨o, HOo⟩ : ∃ o, Aside0 (rd_T60 ops x = o) := ⟨_, ⟨rfl⟩⟩
        rw [HOo.out] at s0 s1 s2 s3 s4 s5 s6 s7
        have HTM := Aside0.mk (take_map (f := faultOf ops (survP ops ops.length)) hx0 hlt)
        rw [HOo.out] at HTM
        have HA := Aside0.mk (answered_f o)
        have HJ := Aside0.mk (fun (W : World) (h : Trace W g (some ad) c1 ops B1 B2 (survP ops ops.length)) => judge_any o W h)
        obtain ⟨o0, o1, o2, o3, o4, o5, o6, o7⟩ := o
        simp only at s0 s1 s2 s3 s4 s5 s6 s7 HA HJ
        cases hans : ansB ⟨o0, o1, o2, o3, o4, o5, o6, o7⟩ with
        | false =>
          rw [hans] at HA
          have HF := Aside0.mk (show faultOf ops (survP ops ops.length) ⟨o0, o1, o2, o3, o4, o5, o6, o7⟩ = none by rw [faultOf, hans]; rfl)
          clear hans
          go_wp2_with fail
          (with_reducible refine (durable_answered.calls o0 o1 o2 o3 o4 o5 o6 o7 false _ HA.out).mono ?_)
          rintro e w2 ⟨rfl, hb2⟩
          have HB2 := Aside0.mk (below_step (below_alloc (Below.refl wr.heap.size wr) _) hb2)
          clear hb2
          go_wp2
          go_roundw
          case rel => exact ⟨x + 1, by omega, by omega, rfl, ⟨by rw [HTM.out, HF.out]; simp only [List.append_nil]; exact Kd.R_below HO.out HB2.out⟩, ⟨below_step HW.out HB2.out⟩⟩
          case measure => simp [intOf]; omega
        | true =>
          rw [hans] at HA
          have hff : faultOf ops (survP ops ops.length) ⟨o0, o1, o2, o3, o4, o5, o6, o7⟩ = if (judgeB ops (survP ops ops.length) ⟨o0, o1, o2, o3, o4, o5, o6, o7⟩).2 = true then some (judgeB ops (survP ops ops.length) ⟨o0, o1, o2, o3, o4, o5, o6, o7⟩).1 else none := by rw [faultOf, hans]; rfl
          obtain ⟨f, hf⟩ : ∃ f, judgeB ops (survP ops ops.length) ⟨o0, o1, o2, o3, o4, o5, o6, o7⟩ = f := ⟨_, rfl⟩
          rw [hf] at hff HJ
          clear hans hf
          obtain ⟨⟨f0, f1, f2⟩, fb⟩ := f
          simp only at hff HJ
          have HF := Aside0.mk hff
          clear hff
          go_wp2_with fail
          (with_reducible refine (durable_answered.calls o0 o1 o2 o3 o4 o5 o6 o7 true _ HA.out).mono ?_)
          rintro e w2 ⟨rfl, hb2⟩
          have HB2 := Aside0.mk (below_step (below_alloc (Below.refl wr.heap.size wr) (.cells #[.int .i64 o0, .int .i64 o1, .int .i64 o2, .bool o3, .bool o4, .int .i64 o5, .int .i64 o6, .int .i64 o7] 60)) hb2)
          have BK := Aside0.mk (blk_old (blk_new wr (.cells #[.int .i64 o0, .int .i64 o1, .int .i64 o2, .bool o3, .bool o4, .int .i64 o5, .int .i64 o6, .int .i64 o7] 60)) hb2)
          clear hb2 s0 s1 s2 s3 s4 s5 s6 s7
          have k0 : w2.cell? ⟨wr.heap.size, 0, none⟩ = some (.int .i64 o0) := (blk_cell BK.out 0).trans rfl
          have k1 : w2.cell? ⟨wr.heap.size, 1, none⟩ = some (.int .i64 o1) := (blk_cell BK.out 1).trans rfl
          have k2 : w2.cell? ⟨wr.heap.size, 2, none⟩ = some (.int .i64 o2) := (blk_cell BK.out 2).trans rfl
          have k3 : w2.cell? ⟨wr.heap.size, 3, none⟩ = some (.bool o3) := (blk_cell BK.out 3).trans rfl
          have k4 : w2.cell? ⟨wr.heap.size, 4, none⟩ = some (.bool o4) := (blk_cell BK.out 4).trans rfl
          have k5 : w2.cell? ⟨wr.heap.size, 5, none⟩ = some (.int .i64 o5) := (blk_cell BK.out 5).trans rfl
          have k6 : w2.cell? ⟨wr.heap.size, 6, none⟩ = some (.int .i64 o6) := (blk_cell BK.out 6).trans rfl
          have k7 : w2.cell? ⟨wr.heap.size, 7, none⟩ = some (.int .i64 o7) := (blk_cell BK.out 7).trans rfl
          go_wp2_with fail
          (with_reducible refine (HJ.out _ (HTW.out.below HB2.out)).mono ?_)
          rintro e w3 ⟨rfl, hb3⟩
          have HB3 := Aside0.mk (below_step HB2.out hb3)
          clear hb3 k0 k1 k2 k3 k4 k5 k6 k7
          cases fb with
          | false =>
            go_wp2
            go_roundw
            case rel => exact ⟨x + 1, by omega, by omega, rfl, ⟨by rw [HTM.out, HF.out]; simp only [Bool.false_eq_true, if_false, List.append_nil]; exact Kd.R_below HO.out (below_alloc HB3.out _)⟩, ⟨below_step HW.out (below_alloc HB3.out _)⟩⟩
            case measure => simp [intOf]; omega
          | true =>
            have LM := Aside0.mk (show ((ops.take x.toNat).filterMap (faultOf ops (survP ops ops.length))).length ≤ 1000000 from Nat.le_trans (List.length_filterMap_le _ _) (by simp only [List.length_take]; omega))
            go_wp2_with (at_builtin; go_loud (refine Kd.R_append k33 (w0 := w1) w1.heap.size rfl (.tmp 37) (.tmp 39) 24 33 (.agg #[(.int .i64 0), (.int .i64 0), (.int .i64 0)]) 24 rfl Try.underlying24 info33 rfl (by decide) (by omega) _ _ ⟨f0, f1, f2⟩ [.int .i64 f0, .int .i64 f1, .int .i64 f2] (fun _ => True) (fun _ => False) rfl (by rw [size_alloc]; rfl) (k33_mkM _ _ _ ⟨f0, f1, f2⟩) (fun _ hk => hk.elim) (fun _ _ => trivial) (Kd.R_below HO.out (below_alloc HB3.out (.cells #[.int .i64 f0, .int .i64 f1, .int .i64 f2] 33))) (below_step HW.out (below_alloc HB3.out (.cells #[.int .i64 f0, .int .i64 f1, .int .i64 f2] 33))) (below_size (below_step HW.out (below_alloc HB3.out (.cells #[.int .i64 f0, .int .i64 f1, .int .i64 f2] 33)))) (by have := LM.out; omega) ?_); intro v1 w4 ho hb hg hat; have HO4 := Aside0.mk ho; have HB4 := Aside0.mk hb; clear ho hb hg hat)
            go_roundw
            case rel => exact ⟨x + 1, by omega, by omega, rfl, ⟨by rw [HTM.out, HF.out]; simp only [if_true]; exact HO4.out⟩, HB4⟩
            case measure => simp [intOf]; omega
      · obtain rfl : x = ops.length := by omega
        rw [show ((ops.length : Int)).toNat = ops.length by omega, List.take_length] at HO
        go_wp2
        go_ret2
        simp only [checkP, HP.out]
        exact ⟨_, rfl, Kd.R_lower HO.out (below_size HB1.out), below_then HB1.out (below_size HB1.out) HW.out⟩
theorem durable_Check.calls (A0 : Option Addr) (c0 : Nat) (l0 : List S39) (r1 : List S33) (r2 : Int) (w : World) (hr0 : Kd.C k39 w A0 l0.length l0) (hc0 : l0.length ≤ c0) (h : durable_Check.f l0 = some (r1, r2)) :
    Calls Try.prog 20 #[.slice A0 l0.length c0] w fun e w' => ∃ v0_ : Value, e = .returned (.tuple #[v0_, .int .i64 r2]) ∧ Kd.R k33 33 w' w.heap.size (fun _ => True) v0_ r1 ∧ Below w.heap.size w w' := by
  unfold durable_Check.f at h
  split at h
  · rename_i hsz
    have e := Option.some.inj h
    have e1 : (checkP l0).1 = r1 := by rw [e]
    have e2 : (checkP l0).2 = r2 := by rw [e]
    have := check_any A0 c0 l0 w hr0 hc0 hsz
    rw [e1, e2] at this
    exact this
  · cases h
end Go.Proofs.Ytidghmgaaenihaa.Q
