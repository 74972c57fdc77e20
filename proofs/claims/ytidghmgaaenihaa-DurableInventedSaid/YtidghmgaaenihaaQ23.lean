-- Written for this claim by a program of this session (wip/qprint.py, over the kit's printer). Not trusted: Lean checks it.
import Derived.Test.YtidghmgaaenihaaQ0
namespace Go.Proofs.Ytidghmgaaenihaa.Q
open Go.RowKit Go.Proofs.YtidghmgaaenihaaW.PrintWords Go.Proofs.YtidghmgaaenihaaW.PrintLast Go.Proofs.YtidghmgaaenihaaW.PrintMore
attribute [local go_sem] max2_int min2_int max_two min_two max_three min_three max_four min_four
set_option linter.unusedVariables false
set_option linter.unusedSimpArgs false

/-! ### tegulalaw47_read: function 23 -/
def tegulalaw47_read.f (a0 : Int) (a1 : Int) (a2 : Int) : Option ((List (S39))) := some (([(⟨1, a0, false, a1, 0, false⟩ : S39), (⟨2, a0, false, a1, a2, false⟩ : S39)] : List (S39)))
set_option maxHeartbeats 8000000 in
set_option maxRecDepth 100000 in
theorem tegulalaw47_read.calls (a0 : Int) (a1 : Int) (a2 : Int) (r : List (S39)) (w : World) (h : tegulalaw47_read.f a0 a1 a2 = some r) :
    Calls Try.prog 23 #[.int .i64 a0, .int .i64 a1, .int .i64 a2] w fun e w' => ∃ v0_ : Value, e = .returned (v0_) ∧ Kd.R k39 39 w' w.heap.size (fun _ => True) v0_ r ∧ Below w.heap.size w w' := by
  have hu39 := Try.underlying39
  have HB := Aside0.mk (Below.refl w.heap.size w)
  have H : (some (([(⟨1, a0, false, a1, 0, false⟩ : S39), (⟨2, a0, false, a1, a2, false⟩ : S39)] : List (S39)))) = some r := h
  clear h
  obtain ⟨y112, hy112⟩ : ∃ y_ : List (S39), y_ = (([(⟨1, a0, false, a1, 0, false⟩ : S39), (⟨2, a0, false, a1, a2, false⟩ : S39)] : List (S39))) := ⟨_, rfl⟩
  replace H : (some y112) = some r := by first | (rw [hy112]; with_reducible exact H) | (have H2_ := (Option.bind_some _ _).symm.trans H; rw [hy112]; with_reducible exact H2_) | (have H2_ := (Option.bind_some _ _).symm.trans H; with_reducible exact H2_) | with_reducible exact H | (rw [hy112]; exact H) | exact H
  have Ny112 := Aside0.mk hy112
  clear hy112
  obtain rfl := Option.some.inj H
  go_enter Try.func23, Try.ntmps23
  go_wp2_with (first | ((with_reducible refine gate_dst (N := 14) rfl ?_); refine Kd.R_lit k39 _ 39 ?hg (N := 14) ?hd (xs := ([(⟨1, a0, false, a1, 0, false⟩ : S39), (⟨2, a0, false, a1, a2, false⟩ : S39)] : List (S39))) (inner := [.int .i64 1, .int .i64 a0, .bool false, .int .i64 a1, .int .i64 0, .bool false, .int .i64 2, .int .i64 a0, .bool false, .int .i64 a1, .int .i64 a2, .bool false]) (ok := fun _ => True) (okp := fun _ => True) ?hr ?hp (fun _ hk => hk) trivial (Below.refl _ _) (Nat.le_refl _) (by simp) ?_; (case hd => rfl); (case hg => rfl); (case hr => first | (go_simp; done) | (go_simp; rfl)); (case hp => exact (Reps.c6 (show Kd.M k39 _ _ _ (⟨1, a0, false, a1, 0, false⟩ : S39) [.int .i64 1, .int .i64 a0, .bool false, .int .i64 a1, .int .i64 0, .bool false] from (k39_mkM _ _ _ (⟨1, a0, false, a1, 0, false⟩ : S39) )) (Reps.c6 (show Kd.M k39 _ _ _ (⟨2, a0, false, a1, a2, false⟩ : S39) [.int .i64 2, .int .i64 a0, .bool false, .int .i64 a1, .int .i64 a2, .bool false] from (k39_mkM _ _ _ (⟨2, a0, false, a1, a2, false⟩ : S39) )) (Reps.none _ _)))); intro v113 w4 ho5 hb hg_ hnew_; clear hg_ hnew_; (first | rw [← Ny112.out] at ho5 | (simp only [Int.reduceToNat] at ho5; rw [← Ny112.out] at ho5)); have n0_ := Aside0.mk (Kd.R_lower ho5 (below_size (by repeat (first | (with_reducible first | exact HB.out | apply below_alloc | apply pw_below_drewN | apply below_drew1) | exact HB.out)))); have n1_ := Aside0.mk (below_step (by repeat (first | (with_reducible first | exact HB.out | apply below_alloc | apply pw_below_drewN | apply below_drew1) | exact HB.out)) hb); clear HB; have HO114 := n0_; have HB := n1_; clear n0_ n1_; clear hb ho5))
  go_ret
  exact ⟨_, by first | rfl | (simp [errW_none, errW_some] <;> rfl) | (simp [*, errW_none, errW_some] <;> rfl), by (with_reducible repeat (first | apply Kd.R_alloc | apply Kd.R_drewN | apply Kd.R_drew)); exact HO114.out, by repeat (first | (with_reducible first | exact HB.out | apply below_alloc | apply pw_below_drewN | apply below_drew1) | exact HB.out)⟩

end Go.Proofs.Ytidghmgaaenihaa.Q
