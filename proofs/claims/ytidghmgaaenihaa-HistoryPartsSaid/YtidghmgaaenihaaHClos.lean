/- The two rules of durable.certain, as predicates on operations. -/
import Derived.Test.YtidghmgaaenihaaHTrace
import Derived.Test.YtidghmgaaenihaaQ90
namespace Go.Proofs.Ytidghmgaaenihaa.Q
open Go.RowKit Go.Proofs.YtidghmgaaenihaaW.PrintWords Go.Proofs.YtidghmgaaenihaaW.PrintLast Go.Proofs.YtidghmgaaenihaaW.PrintMore
set_option linter.unusedVariables false
set_option linter.unusedSimpArgs false

def precB (a b : S60) : Bool := decide (0 ≤ a.f7) && decide (a.f7 < b.f6)
def ansB (o : S60) : Bool := !o.f3 && !o.f4 && decide (0 ≤ o.f7)
theorem precedes_f (a b : S60) : durable_precedes.f a.f0 a.f1 a.f2 a.f3 a.f4 a.f5 a.f6 a.f7 b.f0 b.f1 b.f2 b.f3 b.f4 b.f5 b.f6 b.f7 = some (precB a b) := by
  unfold durable_precedes.f precB
  by_cases h : a.f7 ≥ 0 <;> simp [h]
theorem answered_f (o : S60) : durable_answered.f o.f0 o.f1 o.f2 o.f3 o.f4 o.f5 o.f6 o.f7 = some (ansB o) := by
  unfold durable_answered.f ansB
  cases o.f3 <;> cases o.f4 <;> simp
theorem prec_calls (a b : S60) (w : World) : Calls Try.prog 90 #[.agg #[.int .i64 a.f0, .int .i64 a.f1, .int .i64 a.f2, .bool a.f3, .bool a.f4, .int .i64 a.f5, .int .i64 a.f6, .int .i64 a.f7], .agg #[.int .i64 b.f0, .int .i64 b.f1, .int .i64 b.f2, .bool b.f3, .bool b.f4, .int .i64 b.f5, .int .i64 b.f6, .int .i64 b.f7]] w fun e w' => e = .returned (.bool (precB a b)) ∧ Below w.heap.size w w' :=
  durable_precedes.calls _ _ _ _ _ _ _ _ _ _ _ _ _ _ _ _ _ w (precedes_f a b)

def rule1 (w o : S60) : Bool := o.f4 && (decide (0 ≤ o.f7) && (o.f5 == w.f5 && precB w o))
set_option maxHeartbeats 1000000 in
set_option maxRecDepth 100000 in
theorem rule1_calls (wo o : S60) (W : World) (gw : Nat) (hw : W.heap[gw]? = some (.cells #[.int .i64 wo.f0, .int .i64 wo.f1, .int .i64 wo.f2, .bool wo.f3, .bool wo.f4, .int .i64 wo.f5, .int .i64 wo.f6, .int .i64 wo.f7] 60 (0, 0))) :
    Calls Try.prog 112 #[.agg #[.int .i64 o.f0, .int .i64 o.f1, .int .i64 o.f2, .bool o.f3, .bool o.f4, .int .i64 o.f5, .int .i64 o.f6, .int .i64 o.f7], .pointer (some ⟨gw, 0, none⟩)] W fun e w' => e = .returned (.bool (rule1 wo o)) ∧ Below W.heap.size W w' := by
  have hg : gw < W.heap.size := (Array.getElem?_eq_some_iff.1 hw).1
  have HP := Aside0.mk (prec_calls wo o)
  obtain ⟨p, hp⟩ : ∃ p, precB wo o = p := ⟨_, rfl⟩
  have HR : Aside0 (rule1 wo o = (o.f4 && (decide (0 ≤ o.f7) && (o.f5 == wo.f5 && p)))) := ⟨by rw [rule1, hp]⟩
  rw [HR.out]
  have HPP := Aside0.mk hp
  clear hp
  obtain ⟨a0, a1, a2, a3, a4, a5, a6, a7⟩ := wo
  obtain ⟨o0, o1, o2, o3, o4, o5, o6, o7⟩ := o
  simp only at hw HP HR ⊢
  have c0 : W.cell? ⟨gw, 0, none⟩ = some (.int .i64 a0) := (blk_cell hw 0).trans rfl
  have c1 : W.cell? ⟨gw, 1, none⟩ = some (.int .i64 a1) := (blk_cell hw 1).trans rfl
  have c2 : W.cell? ⟨gw, 2, none⟩ = some (.int .i64 a2) := (blk_cell hw 2).trans rfl
  have c3 : W.cell? ⟨gw, 3, none⟩ = some (.bool a3) := (blk_cell hw 3).trans rfl
  have c4 : W.cell? ⟨gw, 4, none⟩ = some (.bool a4) := (blk_cell hw 4).trans rfl
  have c5 : W.cell? ⟨gw, 5, none⟩ = some (.int .i64 a5) := (blk_cell hw 5).trans rfl
  have c6 : W.cell? ⟨gw, 6, none⟩ = some (.int .i64 a6) := (blk_cell hw 6).trans rfl
  have c7 : W.cell? ⟨gw, 7, none⟩ = some (.int .i64 a7) := (blk_cell hw 7).trans rfl
  clear hw
  cases o4 with
  | false =>
    go_enter Try.func112, Try.ntmps112
    go_wp2
    go_ret
    exact ⟨by simp, by repeat (first | exact Below.refl _ _ | apply below_alloc | apply pw_below_drewN)⟩
  | true =>
    by_cases h7 : 0 ≤ o7
    · have h7' : decide (0 ≤ o7) = true := by simpa using h7
      cases h5 : (o5 == a5) with
      | false =>
        go_enter Try.func112, Try.ntmps112
        go_wp2
        go_ret
        exact ⟨by simp, by repeat (first | exact Below.refl _ _ | apply below_alloc | apply pw_below_drewN)⟩
      | true =>
        go_enter Try.func112, Try.ntmps112
        go_wp2_with fail
        (with_reducible refine (HP.out _).mono ?_)
        rintro e w1 ⟨rfl, hb⟩
        rw [HPP.out]
        go_wp2
        go_ret
        exact ⟨by simp [h7'], below_step (by repeat (first | exact Below.refl _ _ | apply below_alloc | apply pw_below_drewN)) hb⟩
    · have h7' : decide (0 ≤ o7) = false := by simpa using h7
      go_enter Try.func112, Try.ntmps112
      go_wp2
      go_ret
      exact ⟨by simp [h7'], by repeat (first | exact Below.refl _ _ | apply below_alloc | apply pw_below_drewN)⟩

def rule2 (ops : List S60) (w o : S60) : Bool :=
  ansB o && match srcIx ops o.f1 o.f2 with
    | none => false
    | some i => (opAt ops i).f5 == w.f5 && (decide ((opAt ops i).f5 < o.f5) && ((opAt ops i).f0 == w.f0 || precB w (opAt ops i)))
theorem rd60_opAt {ops : List S60} {i : Nat} (h : i < ops.length) : rd_T60 ops i = opAt ops i := by rw [rd60_at (by omega) (by omega)]; simp [opAt_get h]
theorem srcP_none {A : Option Addr} {ops : List S60} {r v : Int} (h : srcIx ops r v = none) : srcP A ops r v = none := by simp [srcP, h]
set_option maxHeartbeats 2000000 in
set_option maxRecDepth 100000 in
theorem rule2_calls (wo o : S60) (W : World) (gw gt g : Nat) {A : Option Addr} {c : Nat} {ops : List S60} {B1 B2 : Nat} {sv : List (Int × Bool)}
    (hw : W.heap[gw]? = some (.cells #[.int .i64 wo.f0, .int .i64 wo.f1, .int .i64 wo.f2, .bool wo.f3, .bool wo.f4, .int .i64 wo.f5, .int .i64 wo.f6, .int .i64 wo.f7] 60 (0, 0))) (ht : W.heap[gt]? = some (.cells #[.pointer (some ⟨g, 0, none⟩)] 84 (0, 0))) (hT : Trace W g A c ops B1 B2 sv) :
    Calls Try.prog 113 #[.agg #[.int .i64 o.f0, .int .i64 o.f1, .int .i64 o.f2, .bool o.f3, .bool o.f4, .int .i64 o.f5, .int .i64 o.f6, .int .i64 o.f7], .pointer (some ⟨gt, 0, none⟩), .pointer (some ⟨gw, 0, none⟩)] W fun e w' => e = .returned (.bool (rule2 ops wo o)) ∧ Below W.heap.size W w' := by
  have HP := Aside0.mk (fun i => prec_calls wo (opAt ops i))
  have HA := Aside0.mk (answered_f o)
  obtain ⟨b, hb⟩ : ∃ b, rule2 ops wo o = b := ⟨_, rfl⟩
  have HRR := Aside0.mk hb
  unfold rule2 at hb
  rw [HRR.out]
  clear HRR
  have HT := Aside0.mk hT
  have HW := Aside0.mk hw
  have HTT := Aside0.mk ht
  clear hT hw ht
  obtain ⟨a0, a1, a2, a3, a4, a5, a6, a7⟩ := wo
  obtain ⟨o0, o1, o2, o3, o4, o5, o6, o7⟩ := o
  simp only at HW HP HA hb ⊢
  cases hans : ansB ⟨o0, o1, o2, o3, o4, o5, o6, o7⟩ with
  | false =>
    rw [hans] at HA
    rw [hans, Bool.false_and] at hb
    subst hb
    clear hans
    go_enter Try.func113, Try.ntmps113
    go_wp2_with fail
    (with_reducible refine (durable_answered.calls o0 o1 o2 o3 o4 o5 o6 o7 false _ HA.out).mono ?_)
    rintro e w1 ⟨rfl, hb⟩
    go_wp2
    go_ret
    exact ⟨rfl, below_step (by repeat (first | exact Below.refl _ _ | apply below_alloc | apply pw_below_drewN | apply below_drew)) hb⟩
  | true =>
    rw [hans] at HA
    rw [hans, Bool.true_and] at hb
    clear hans
    have HB := Aside0.mk hb
    clear hb
    go_enter Try.func113, Try.ntmps113
    go_wp2_with fail
    (with_reducible refine (durable_answered.calls o0 o1 o2 o3 o4 o5 o6 o7 true _ HA.out).mono ?_)
    rintro e w1 ⟨rfl, hb1⟩
    have hW1 := Aside0.mk (below_step (below_alloc (Below.refl W.heap.size W) (.cells #[.int .i64 o0, .int .i64 o1, .int .i64 o2, .bool o3, .bool o4, .int .i64 o5, .int .i64 o6, .int .i64 o7] 60)) hb1)
    have BK := Aside0.mk (blk_old (blk_new W (.cells #[.int .i64 o0, .int .i64 o1, .int .i64 o2, .bool o3, .bool o4, .int .i64 o5, .int .i64 o6, .int .i64 o7] 60)) hb1)
    clear hb1
    have q0 : w1.cell? ⟨gt, 0, none⟩ = some (.pointer (some ⟨g, 0, none⟩)) := (blk_cell (blk_old HTT.out hW1.out) 0).trans rfl
    have k0 : w1.cell? ⟨W.heap.size, 0, none⟩ = some (.int .i64 o0) := (blk_cell BK.out 0).trans rfl
    have k1 : w1.cell? ⟨W.heap.size, 1, none⟩ = some (.int .i64 o1) := (blk_cell BK.out 1).trans rfl
    have k2 : w1.cell? ⟨W.heap.size, 2, none⟩ = some (.int .i64 o2) := (blk_cell BK.out 2).trans rfl
    have k3 : w1.cell? ⟨W.heap.size, 3, none⟩ = some (.bool o3) := (blk_cell BK.out 3).trans rfl
    have k4 : w1.cell? ⟨W.heap.size, 4, none⟩ = some (.bool o4) := (blk_cell BK.out 4).trans rfl
    have k5 : w1.cell? ⟨W.heap.size, 5, none⟩ = some (.int .i64 o5) := (blk_cell BK.out 5).trans rfl
    have k6 : w1.cell? ⟨W.heap.size, 6, none⟩ = some (.int .i64 o6) := (blk_cell BK.out 6).trans rfl
    have k7 : w1.cell? ⟨W.heap.size, 7, none⟩ = some (.int .i64 o7) := (blk_cell BK.out 7).trans rfl
    go_wp2_with fail
    (with_reducible refine (source_any o0 o1 o2 o3 o4 o5 o6 o7 _ (HT.out.below hW1.out)).mono ?_)
    rintro e w2 ⟨rfl, hb2⟩
    have hW2 := Aside0.mk (below_step hW1.out hb2)
    have BK2 := Aside0.mk (blk_old BK.out hb2)
    clear hb2 k0 k1 k2 k3 k4 k5 k6 k7 q0
    cases hs : srcIx ops o1 o2 with
    | none =>
      rw [srcP_none hs]
      have hb := HB.out
      rw [hs] at hb
      simp only at hb
      subst hb
      clear hs HB
      go_wp2_with fail
      go_quiet (fail)
      go_wp2
      go_ret
      exact ⟨rfl, by repeat (first | exact hW2.out | apply below_alloc | apply pw_below_drewN | apply below_drew)⟩
    | some i =>
      have hil := (src_lt hs).1
      have hb := HB.out
      rw [hs] at hb
      simp only at hb
      have hT2 := HT.out.below hW2.out
      obtain ⟨ad, eA, s0, s1, s2, s3, s4, s5, s6, s7⟩ := at_T60 hT2.row i (by omega) (by omega)
      rw [rd60_opAt hil, Int.toNat_natCast] at s0 s1 s2 s3 s4 s5 s6 s7
      have hsp : srcP A ops o1 o2 = some (ad.add (i * 8)) := by simp [srcP, hs, ptrAt, eA]
      rw [hsp]
      have HPi := Aside0.mk (HP.out i)
      obtain ⟨s, hsd⟩ : ∃ s, opAt ops i = s := ⟨_, rfl⟩
      rw [hsd] at s0 s1 s2 s3 s4 s5 s6 s7 hb HPi
      obtain ⟨z0, z1, z2, z3, z4, z5, z6, z7⟩ := s
      simp only at s0 s1 s2 s3 s4 s5 s6 s7 hb HPi
      have hBW := blk_old HW.out hW2.out
      have c0 : w2.cell? ⟨gw, 0, none⟩ = some (.int .i64 a0) := (blk_cell hBW 0).trans rfl
      have c1 : w2.cell? ⟨gw, 1, none⟩ = some (.int .i64 a1) := (blk_cell hBW 1).trans rfl
      have c2 : w2.cell? ⟨gw, 2, none⟩ = some (.int .i64 a2) := (blk_cell hBW 2).trans rfl
      have c3 : w2.cell? ⟨gw, 3, none⟩ = some (.bool a3) := (blk_cell hBW 3).trans rfl
      have c4 : w2.cell? ⟨gw, 4, none⟩ = some (.bool a4) := (blk_cell hBW 4).trans rfl
      have c5 : w2.cell? ⟨gw, 5, none⟩ = some (.int .i64 a5) := (blk_cell hBW 5).trans rfl
      have c6 : w2.cell? ⟨gw, 6, none⟩ = some (.int .i64 a6) := (blk_cell hBW 6).trans rfl
      have c7 : w2.cell? ⟨gw, 7, none⟩ = some (.int .i64 a7) := (blk_cell hBW 7).trans rfl
      have k5 : w2.cell? ⟨W.heap.size, 5, none⟩ = some (.int .i64 o5) := (blk_cell BK2.out 5).trans rfl
      clear hs hsp hsd hT2 hBW HB HP
      cases h5 : (z5 == a5) with
      | false =>
        rw [h5, Bool.false_and] at hb
        subst hb
        go_wp2_with fail
        go_quiet (fail)
        go_wp2
        go_ret
        exact ⟨rfl, by repeat (first | exact hW2.out | apply below_alloc | apply pw_below_drewN | apply below_drew)⟩
      | true =>
        rw [h5, Bool.true_and] at hb
        cases h6 : decide (z5 < o5) with
        | false =>
          rw [h6, Bool.false_and] at hb
          subst hb
          go_wp2_with fail
          go_quiet (fail)
          go_wp2
          go_ret
          exact ⟨rfl, by repeat (first | exact hW2.out | apply below_alloc | apply pw_below_drewN | apply below_drew)⟩
        | true =>
          rw [h6, Bool.true_and] at hb
          cases h0 : (z0 == a0) with
          | true =>
            rw [h0, Bool.true_or] at hb
            subst hb
            go_wp2_with fail
            go_quiet (fail)
            go_wp2
            go_ret
            exact ⟨rfl, by repeat (first | exact hW2.out | apply below_alloc | apply pw_below_drewN | apply below_drew)⟩
          | false =>
            rw [h0, Bool.false_or] at hb
            rw [hb] at HPi
            clear hb
            go_wp2_with fail
            refine still_tail 33 (by kernel_rfl) (by kernel_rfl) ?_
            simp only [List.take_succ_cons, List.take_zero, List.drop_succ_cons, List.drop_zero]
            repeat still_step
            refine wpStill_nil ?_
            go_wp2_with fail
            (with_reducible refine (HPi.out _).mono ?_)
            rintro e w3 ⟨rfl, hb3⟩
            go_wp2
            go_ret
            exact ⟨rfl, below_step (by repeat (first | exact hW2.out | apply below_alloc | apply pw_below_drewN | apply below_drew)) hb3⟩
end Go.Proofs.Ytidghmgaaenihaa.Q
