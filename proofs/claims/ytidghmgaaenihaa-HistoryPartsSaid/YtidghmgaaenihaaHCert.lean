/- The Go method certain of a trace. -/
import Derived.Test.YtidghmgaaenihaaHClos
import Derived.Laws.EntriesVeiled
namespace Go.Proofs.Ytidghmgaaenihaa.Q
open Go.RowKit Go.Proofs.YtidghmgaaenihaaW.PrintWords Go.Proofs.YtidghmgaaenihaaW.PrintLast Go.Proofs.YtidghmgaaenihaaW.PrintMore
set_option linter.unusedVariables false
set_option linter.unusedSimpArgs false

def certainB (ops : List S60) (w : S60) : Bool := if w.f7 < 0 then false else if w.f4 = true then true else ops.any (rule1 w) || ops.any (rule2 ops w)
theorem pred112 (wo : S60) (gw : Nat) : Pred60 112 #[.pointer (some ⟨gw, 0, none⟩)] (rule1 wo) (fun W => W.heap[gw]? = some (.cells #[.int .i64 wo.f0, .int .i64 wo.f1, .int .i64 wo.f2, .bool wo.f3, .bool wo.f4, .int .i64 wo.f5, .int .i64 wo.f6, .int .i64 wo.f7] 60 (0, 0))) where
  enters args w := enters_ Try.func112 (by kernel_rfl) rfl args w
  calls o W h := rule1_calls wo o W gw h
  stays W W' h hb := blk_old h hb
theorem pred113 (wo : S60) (gw gt g : Nat) {A : Option Addr} {c : Nat} {ops : List S60} {B1 B2 : Nat} {sv : List (Int × Bool)} : Pred60 113 #[.pointer (some ⟨gt, 0, none⟩), .pointer (some ⟨gw, 0, none⟩)] (rule2 ops wo)
    (fun W => W.heap[gw]? = some (.cells #[.int .i64 wo.f0, .int .i64 wo.f1, .int .i64 wo.f2, .bool wo.f3, .bool wo.f4, .int .i64 wo.f5, .int .i64 wo.f6, .int .i64 wo.f7] 60 (0, 0)) ∧ W.heap[gt]? = some (.cells #[.pointer (some ⟨g, 0, none⟩)] 84 (0, 0)) ∧ Trace W g A c ops B1 B2 sv) where
  enters args w := enters_ Try.func113 (by kernel_rfl) rfl args w
  calls o W h := rule2_calls wo o W gw gt g h.1 h.2.1 h.2.2
  stays W W' h hb := ⟨blk_old h.1 hb, blk_old h.2.1 hb, h.2.2.below hb⟩

theorem blk_new1 (w : World) (o o' : Obj) : ((w.alloc o).alloc o').heap[w.heap.size + 1]? = some o' := by
  have h : (w.alloc o).heap.size = w.heap.size + 1 := by show (w.heap.push o).size = _; simp
  have := blk_new (w.alloc o) o'
  rwa [h] at this

set_option maxHeartbeats 2000000 in
set_option maxRecDepth 100000 in
theorem certain_any (wo : S60) (w : World) {g : Nat} {A : Option Addr} {c : Nat} {ops : List S60} {B1 B2 : Nat} {sv : List (Int × Bool)} (h : Trace w g A c ops B1 B2 sv) :
    Calls Try.prog 86 #[.pointer (some ⟨g, 0, none⟩), .agg #[.int .i64 wo.f0, .int .i64 wo.f1, .int .i64 wo.f2, .bool wo.f3, .bool wo.f4, .int .i64 wo.f5, .int .i64 wo.f6, .int .i64 wo.f7]] w fun e w' => e = .returned (.bool (certainB ops wo)) ∧ Below w.heap.size w w' := by
  obtain ⟨b, hb⟩ : ∃ b, certainB ops wo = b := ⟨_, rfl⟩
  have HRR := Aside0.mk hb
  unfold certainB at hb
  rw [HRR.out]
  clear HRR
  have HT := Aside0.mk h
  clear h
  have HP1 := Aside0.mk (fun gw => pred112 wo gw)
  have HP2 := Aside0.mk (fun gw gt => pred113 wo gw gt g (A := A) (c := c) (ops := ops) (B1 := B1) (B2 := B2) (sv := sv))
  obtain ⟨p1, hp1⟩ : ∃ p, ops.any (rule1 wo) = p := ⟨_, rfl⟩
  obtain ⟨p2, hp2⟩ : ∃ p, ops.any (rule2 ops wo) = p := ⟨_, rfl⟩
  rw [hp1, hp2] at hb
  have HQ1 := Aside0.mk hp1
  have HQ2 := Aside0.mk hp2
  clear hp1 hp2
  obtain ⟨q1, hq1⟩ : ∃ q, rule1 wo = q := ⟨_, rfl⟩
  obtain ⟨q2, hq2⟩ : ∃ q, rule2 ops wo = q := ⟨_, rfl⟩
  rw [hq1] at HP1 HQ1
  rw [hq2] at HP2 HQ2
  clear hq1 hq2
  obtain ⟨a0, a1, a2, a3, a4, a5, a6, a7⟩ := wo
  simp only at hb HP1 HP2 ⊢
  by_cases h7 : a7 < 0
  · rw [if_pos h7] at hb
    subst hb
    go_enter Try.func86, Try.ntmps86
    go_wp2
    go_ret
    exact ⟨rfl, by repeat (first | exact Below.refl _ _ | apply below_alloc | apply pw_below_drewN)⟩
  · rw [if_neg h7] at hb
    cases a4 with
    | true =>
      rw [if_pos rfl] at hb
      subst hb
      go_enter Try.func86, Try.ntmps86
      go_wp2
      go_ret
      exact ⟨rfl, by repeat (first | exact Below.refl _ _ | apply below_alloc | apply pw_below_drewN)⟩
    | false =>
      rw [if_neg (by decide)] at hb
      have HB := Aside0.mk hb
      clear hb
      have i0 : ∀ (u v : Value) (W : World), (Instr.index 177 (.agg #[u, v]) (.int .i64 0)).run Try.prog W = .ok u W := fun _ _ _ => by kernel_rfl
      have i1 : ∀ (u v : Value) (W : World), (Instr.index 177 (.agg #[u, v]) (.int .i64 1)).run Try.prog W = .ok v W := fun _ _ _ => by kernel_rfl
      go_enter Try.func86, Try.ntmps86
      go_wp2
      refine wp_loop_rounds 3 ?_
      rw [rounds_succ]
      have hb0 : Below w.heap.size w (((w.alloc (.cells #[.pointer (some ⟨g, 0, none⟩)] 84)).alloc (.cells #[.int .i64 a0, .int .i64 a1, .int .i64 a2, .bool a3, .bool false, .int .i64 a5, .int .i64 a6, .int .i64 a7] 60)).alloc (.cells #[.func (.func 112) #[] #[.pointer (some ⟨w.heap.size + 1, 0, none⟩)], .func (.func 113) #[] #[.pointer (some ⟨w.heap.size, 0, none⟩), .pointer (some ⟨w.heap.size + 1, 0, none⟩)]] 177)) := by repeat (first | exact Below.refl _ _ | apply below_alloc)
      have ht0 : (((w.alloc (.cells #[.pointer (some ⟨g, 0, none⟩)] 84)).alloc (.cells #[.int .i64 a0, .int .i64 a1, .int .i64 a2, .bool a3, .bool false, .int .i64 a5, .int .i64 a6, .int .i64 a7] 60)).alloc (.cells #[.func (.func 112) #[] #[.pointer (some ⟨w.heap.size + 1, 0, none⟩)], .func (.func 113) #[] #[.pointer (some ⟨w.heap.size, 0, none⟩), .pointer (some ⟨w.heap.size + 1, 0, none⟩)]] 177)).heap[w.heap.size]? = some (.cells #[.pointer (some ⟨g, 0, none⟩)] 84 (0, 0)) := blk_old (blk_old (blk_new w _) (below_alloc (Below.refl _ _) _)) (below_alloc (Below.refl _ _) _)
      have hw0 : (((w.alloc (.cells #[.pointer (some ⟨g, 0, none⟩)] 84)).alloc (.cells #[.int .i64 a0, .int .i64 a1, .int .i64 a2, .bool a3, .bool false, .int .i64 a5, .int .i64 a6, .int .i64 a7] 60)).alloc (.cells #[.func (.func 112) #[] #[.pointer (some ⟨w.heap.size + 1, 0, none⟩)], .func (.func 113) #[] #[.pointer (some ⟨w.heap.size, 0, none⟩), .pointer (some ⟨w.heap.size + 1, 0, none⟩)]] 177)).heap[w.heap.size + 1]? = some (.cells #[.int .i64 a0, .int .i64 a1, .int .i64 a2, .bool a3, .bool false, .int .i64 a5, .int .i64 a6, .int .i64 a7] 60 (0, 0)) := blk_old (blk_new1 w _ _) (below_alloc (Below.refl _ _) _)
      generalize ((w.alloc (.cells #[.pointer (some ⟨g, 0, none⟩)] 84)).alloc (.cells #[.int .i64 a0, .int .i64 a1, .int .i64 a2, .bool a3, .bool false, .int .i64 a5, .int .i64 a6, .int .i64 a7] 60)).alloc (.cells #[.func (.func 112) #[] #[.pointer (some ⟨w.heap.size + 1, 0, none⟩)], .func (.func 113) #[] #[.pointer (some ⟨w.heap.size, 0, none⟩), .pointer (some ⟨w.heap.size + 1, 0, none⟩)]] 177) = W0 at hb0 ht0 hw0 ⊢
      have hT0 := HT.out.below hb0
      have e0 : W0.cell? ⟨w.heap.size, 0, none⟩ = some (.pointer (some ⟨g, 0, none⟩)) := (blk_cell ht0 0).trans rfl
      have e1 : W0.cell? ⟨g, 0, none⟩ = some (.slice A ops.length c) := (blk_cell hT0.blk 0).trans rfl
      have HB0 := Aside0.mk hb0
      have HT0 := Aside0.mk hT0
      have HH0 := Aside0.mk ht0
      have HW0 := Aside0.mk hw0
      clear hb0 hT0 ht0 hw0
      go_wp2_with fail
      (with_reducible refine (contains60 112 _ _ _ (HP1.out (w.heap.size + 1)) A c ops _ HT0.out.row HT0.out.cap HT0.out.size HW0.out).mono ?_)
      rintro e w1 ⟨rfl, hb1⟩
      rw [HQ1.out]
      have HB1 := Aside0.mk (below_step HB0.out hb1)
      have HT1 := Aside0.mk (HT0.out.below hb1)
      have HH1 := Aside0.mk (blk_old HH0.out hb1)
      have HW1 := Aside0.mk (blk_old HW0.out hb1)
      clear hb1 e0 e1
      cases p1 with
      | true =>
        have hb := HB.out
        rw [Bool.true_or] at hb
        subst hb
        go_wp2
        go_ret
        exact ⟨rfl, HB1.out⟩
      | false =>
        have hb := HB.out
        rw [Bool.false_or] at hb
        subst hb
        have e0 : w1.cell? ⟨w.heap.size, 0, none⟩ = some (.pointer (some ⟨g, 0, none⟩)) := (blk_cell HH1.out 0).trans rfl
        have e1 : w1.cell? ⟨g, 0, none⟩ = some (.slice A ops.length c) := (blk_cell HT1.out.blk 0).trans rfl
        go_wp2_with fail
        rw [rounds_succ]
        go_wp2_with fail
        (with_reducible refine (contains60 113 _ _ _ (HP2.out (w.heap.size + 1) w.heap.size) A c ops _ HT1.out.row HT1.out.cap HT1.out.size ⟨HW1.out, HH1.out, HT1.out⟩).mono ?_)
        rintro e w2 ⟨rfl, hb2⟩
        rw [HQ2.out]
        have HB2 := Aside0.mk (below_step HB1.out hb2)
        clear hb2 e0 e1 HB
        cases p2 with
        | true =>
          go_wp2
          go_ret
          exact ⟨rfl, HB2.out⟩
        | false =>
          go_wp2_with fail
          rw [rounds_succ]
          go_wp2
          go_ret
          exact ⟨rfl, HB2.out⟩
end Go.Proofs.Ytidghmgaaenihaa.Q
