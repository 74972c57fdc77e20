/- What the history of DurableFlushed answers, by evaluation. -/
import Derived.Test.YtidghmgaaenihaaQ5
namespace Go.Proofs.Ytidghmgaaenihaa.Q
open Go.RowKit
set_option linter.unusedVariables false
theorem awake47_true5 : tegulalaw47_awake.f = some true := by rfl
theorem u8_nat5 {a : Int} (h : (Lit.int .u8 a).wf = true) : ∃ x : Nat, x < 256 ∧ a = (x : Int) := by
  have h2 : IntKind.u8.min ≤ a ∧ a ≤ IntKind.u8.max := by simpa [Lit.wf] using h
  have e1 : IntKind.u8.min = 0 := by decide
  have e2 : IntKind.u8.max = 255 := by decide
  exact ⟨a.toNat, by omega, by omega⟩
theorem fl_0 : ∀ y : Fin 1, ∀ z : Fin 1, tegulalaw47_DurableFlushed.l0 20 0 (y.val : Int) (z.val : Int) [] 0 = some true := by decide +kernel
theorem fl_1 : ∀ y : Fin 2, ∀ z : Fin 2, tegulalaw47_DurableFlushed.l0 20 1 (y.val : Int) (z.val : Int) [] 0 = some true := by decide +kernel
theorem fl_2 : ∀ y : Fin 3, ∀ z : Fin 3, tegulalaw47_DurableFlushed.l0 20 2 (y.val : Int) (z.val : Int) [] 0 = some true := by decide +kernel
theorem fl_3 : ∀ y : Fin 4, ∀ z : Fin 4, tegulalaw47_DurableFlushed.l0 20 3 (y.val : Int) (z.val : Int) [] 0 = some true := by decide +kernel
theorem fl_4 : ∀ y : Fin 5, ∀ z : Fin 5, tegulalaw47_DurableFlushed.l0 20 4 (y.val : Int) (z.val : Int) [] 0 = some true := by decide +kernel
theorem fl_5 : ∀ y : Fin 6, ∀ z : Fin 6, tegulalaw47_DurableFlushed.l0 20 5 (y.val : Int) (z.val : Int) [] 0 = some true := by decide +kernel
theorem fl_6 : ∀ y : Fin 7, ∀ z : Fin 7, tegulalaw47_DurableFlushed.l0 20 6 (y.val : Int) (z.val : Int) [] 0 = some true := by decide +kernel
theorem fl_7 : ∀ y : Fin 8, ∀ z : Fin 8, tegulalaw47_DurableFlushed.l0 20 7 (y.val : Int) (z.val : Int) [] 0 = some true := by decide +kernel
theorem fl_8 : ∀ y : Fin 9, ∀ z : Fin 9, tegulalaw47_DurableFlushed.l0 20 8 (y.val : Int) (z.val : Int) [] 0 = some true := by decide +kernel
theorem fl_9 : ∀ y : Fin 10, ∀ z : Fin 10, tegulalaw47_DurableFlushed.l0 20 9 (y.val : Int) (z.val : Int) [] 0 = some true := by decide +kernel
theorem fl_10 : ∀ y : Fin 11, ∀ z : Fin 11, tegulalaw47_DurableFlushed.l0 20 10 (y.val : Int) (z.val : Int) [] 0 = some true := by decide +kernel
theorem fl_11 : ∀ y : Fin 12, ∀ z : Fin 12, tegulalaw47_DurableFlushed.l0 20 11 (y.val : Int) (z.val : Int) [] 0 = some true := by decide +kernel
theorem fl_12 : ∀ y : Fin 13, ∀ z : Fin 13, tegulalaw47_DurableFlushed.l0 20 12 (y.val : Int) (z.val : Int) [] 0 = some true := by decide +kernel
theorem fl_wrap : ∀ x : Fin 256, wrap64 ((x.val : Nat) : Int) = ((x.val : Nat) : Int) := by decide +kernel
theorem fl_tmod13 : ∀ x : Fin 256, wrap64 (Int.tmod ((x.val : Nat) : Int) 13) = ((x.val % 13 : Nat) : Int) := by decide +kernel
theorem fl_tmod : ∀ k : Fin 13, ∀ x : Fin 256, Int.tmod ((x.val : Nat) : Int) ((k.val + 1 : Nat) : Int) = ((x.val % (k.val + 1) : Nat) : Int) := by decide +kernel
theorem fl_succ : ∀ k : Fin 13, wrap64 (((k.val : Nat) : Int) + 1) = ((k.val + 1 : Nat) : Int) := by decide +kernel
theorem flushed_pure : tegulalaw47_DurableFlushed.Pure := by
  intro a0 a1 a2 h0 h1 h2
  obtain ⟨x, hx, rfl⟩ := u8_nat5 h0
  obtain ⟨y, hy, rfl⟩ := u8_nat5 h1
  obtain ⟨z, hz, rfl⟩ := u8_nat5 h2
  refine ⟨20, ?_⟩
  unfold tegulalaw47_DurableFlushed.f
  have hk : x % 13 < 13 := Nat.mod_lt _ (by decide)
  rw [awake47_true5, Option.bind_some, if_pos rfl, fl_tmod13 ⟨x, hx⟩, fl_wrap ⟨y, hy⟩, fl_wrap ⟨z, hz⟩]
  simp only
  rw [fl_succ ⟨x % 13, hk⟩]
  simp only
  rw [fl_tmod ⟨x % 13, hk⟩ ⟨y, hy⟩, fl_tmod ⟨x % 13, hk⟩ ⟨z, hz⟩, if_neg (by omega)]
  simp only
  generalize x % 13 = k at hk
  have hy2 : y % (k + 1) < k + 1 := Nat.mod_lt _ (by omega)
  have hz2 : z % (k + 1) < k + 1 := Nat.mod_lt _ (by omega)
  generalize y % (k + 1) = y at hy2
  generalize z % (k + 1) = z at hz2
  match k, hk with
  | 0, _ => exact fl_0 ⟨y, hy2⟩ ⟨z, hz2⟩
  | 1, _ => exact fl_1 ⟨y, hy2⟩ ⟨z, hz2⟩
  | 2, _ => exact fl_2 ⟨y, hy2⟩ ⟨z, hz2⟩
  | 3, _ => exact fl_3 ⟨y, hy2⟩ ⟨z, hz2⟩
  | 4, _ => exact fl_4 ⟨y, hy2⟩ ⟨z, hz2⟩
  | 5, _ => exact fl_5 ⟨y, hy2⟩ ⟨z, hz2⟩
  | 6, _ => exact fl_6 ⟨y, hy2⟩ ⟨z, hz2⟩
  | 7, _ => exact fl_7 ⟨y, hy2⟩ ⟨z, hz2⟩
  | 8, _ => exact fl_8 ⟨y, hy2⟩ ⟨z, hz2⟩
  | 9, _ => exact fl_9 ⟨y, hy2⟩ ⟨z, hz2⟩
  | 10, _ => exact fl_10 ⟨y, hy2⟩ ⟨z, hz2⟩
  | 11, _ => exact fl_11 ⟨y, hy2⟩ ⟨z, hz2⟩
  | 12, _ => exact fl_12 ⟨y, hy2⟩ ⟨z, hz2⟩
end Go.Proofs.Ytidghmgaaenihaa.Q
