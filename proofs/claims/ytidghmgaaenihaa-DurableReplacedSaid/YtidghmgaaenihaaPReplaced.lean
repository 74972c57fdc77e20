/- What the example and the history of DurableReplaced answer, by evaluation. -/
import Derived.Test.YtidghmgaaenihaaQ4
namespace Go.Proofs.Ytidghmgaaenihaa.Q
open Go.RowKit
set_option linter.unusedVariables false
theorem awake47_true : tegulalaw47_awake.f = some true := by rfl
theorem wrap_u8 : ∀ x : Fin 256, wrap64 ((x.val : Nat) : Int) = ((x.val : Nat) : Int) := by decide +kernel
theorem wrap_tmod13 : ∀ x : Fin 256, wrap64 (Int.tmod ((x.val : Nat) : Int) 13) = ((x.val % 13 : Nat) : Int) := by decide +kernel
theorem u8_nat {a : Int} (h : (Lit.int .u8 a).wf = true) : ∃ x : Nat, x < 256 ∧ a = (x : Int) := by
  have h2 : IntKind.u8.min ≤ a ∧ a ≤ IntKind.u8.max := by simpa [Lit.wf] using h
  have e1 : IntKind.u8.min = 0 := by decide
  have e2 : IntKind.u8.max = 255 := by decide
  exact ⟨a.toNat, by omega, by omega⟩
theorem repl_0_0 : ∀ y : Fin 64, tegulalaw47_DurableReplaced.l0 20 0 (((0 + y.val : Nat)) : Int) [] 0 = some true := by decide +kernel
theorem repl_0_1 : ∀ y : Fin 64, tegulalaw47_DurableReplaced.l0 20 0 (((64 + y.val : Nat)) : Int) [] 0 = some true := by decide +kernel
theorem repl_0_2 : ∀ y : Fin 64, tegulalaw47_DurableReplaced.l0 20 0 (((128 + y.val : Nat)) : Int) [] 0 = some true := by decide +kernel
theorem repl_0_3 : ∀ y : Fin 64, tegulalaw47_DurableReplaced.l0 20 0 (((192 + y.val : Nat)) : Int) [] 0 = some true := by decide +kernel
theorem repl_0 (y : Nat) (h : y < 256) : tegulalaw47_DurableReplaced.l0 20 0 (y : Int) [] 0 = some true := by
  by_cases h0 : y < 64
  · have h : tegulalaw47_DurableReplaced.l0 20 0 ((0 + y : Nat) : Int) [] 0 = some true := repl_0_0 ⟨y, h0⟩
    rwa [show 0 + y = y by omega] at h
  by_cases h1 : y < 128
  · have h : tegulalaw47_DurableReplaced.l0 20 0 ((64 + (y - 64) : Nat) : Int) [] 0 = some true := repl_0_1 ⟨y - 64, by omega⟩
    rwa [show 64 + (y - 64) = y by omega] at h
  by_cases h2 : y < 192
  · have h : tegulalaw47_DurableReplaced.l0 20 0 ((128 + (y - 128) : Nat) : Int) [] 0 = some true := repl_0_2 ⟨y - 128, by omega⟩
    rwa [show 128 + (y - 128) = y by omega] at h
  · have h : tegulalaw47_DurableReplaced.l0 20 0 ((192 + (y - 192) : Nat) : Int) [] 0 = some true := repl_0_3 ⟨y - 192, by omega⟩
    rwa [show 192 + (y - 192) = y by omega] at h
theorem repl_1_0 : ∀ y : Fin 64, tegulalaw47_DurableReplaced.l0 20 1 (((0 + y.val : Nat)) : Int) [] 0 = some true := by decide +kernel
theorem repl_1_1 : ∀ y : Fin 64, tegulalaw47_DurableReplaced.l0 20 1 (((64 + y.val : Nat)) : Int) [] 0 = some true := by decide +kernel
theorem repl_1_2 : ∀ y : Fin 64, tegulalaw47_DurableReplaced.l0 20 1 (((128 + y.val : Nat)) : Int) [] 0 = some true := by decide +kernel
theorem repl_1_3 : ∀ y : Fin 64, tegulalaw47_DurableReplaced.l0 20 1 (((192 + y.val : Nat)) : Int) [] 0 = some true := by decide +kernel
theorem repl_1 (y : Nat) (h : y < 256) : tegulalaw47_DurableReplaced.l0 20 1 (y : Int) [] 0 = some true := by
  by_cases h0 : y < 64
  · have h : tegulalaw47_DurableReplaced.l0 20 1 ((0 + y : Nat) : Int) [] 0 = some true := repl_1_0 ⟨y, h0⟩
    rwa [show 0 + y = y by omega] at h
  by_cases h1 : y < 128
  · have h : tegulalaw47_DurableReplaced.l0 20 1 ((64 + (y - 64) : Nat) : Int) [] 0 = some true := repl_1_1 ⟨y - 64, by omega⟩
    rwa [show 64 + (y - 64) = y by omega] at h
  by_cases h2 : y < 192
  · have h : tegulalaw47_DurableReplaced.l0 20 1 ((128 + (y - 128) : Nat) : Int) [] 0 = some true := repl_1_2 ⟨y - 128, by omega⟩
    rwa [show 128 + (y - 128) = y by omega] at h
  · have h : tegulalaw47_DurableReplaced.l0 20 1 ((192 + (y - 192) : Nat) : Int) [] 0 = some true := repl_1_3 ⟨y - 192, by omega⟩
    rwa [show 192 + (y - 192) = y by omega] at h
theorem repl_2_0 : ∀ y : Fin 64, tegulalaw47_DurableReplaced.l0 20 2 (((0 + y.val : Nat)) : Int) [] 0 = some true := by decide +kernel
theorem repl_2_1 : ∀ y : Fin 64, tegulalaw47_DurableReplaced.l0 20 2 (((64 + y.val : Nat)) : Int) [] 0 = some true := by decide +kernel
theorem repl_2_2 : ∀ y : Fin 64, tegulalaw47_DurableReplaced.l0 20 2 (((128 + y.val : Nat)) : Int) [] 0 = some true := by decide +kernel
theorem repl_2_3 : ∀ y : Fin 64, tegulalaw47_DurableReplaced.l0 20 2 (((192 + y.val : Nat)) : Int) [] 0 = some true := by decide +kernel
theorem repl_2 (y : Nat) (h : y < 256) : tegulalaw47_DurableReplaced.l0 20 2 (y : Int) [] 0 = some true := by
  by_cases h0 : y < 64
  · have h : tegulalaw47_DurableReplaced.l0 20 2 ((0 + y : Nat) : Int) [] 0 = some true := repl_2_0 ⟨y, h0⟩
    rwa [show 0 + y = y by omega] at h
  by_cases h1 : y < 128
  · have h : tegulalaw47_DurableReplaced.l0 20 2 ((64 + (y - 64) : Nat) : Int) [] 0 = some true := repl_2_1 ⟨y - 64, by omega⟩
    rwa [show 64 + (y - 64) = y by omega] at h
  by_cases h2 : y < 192
  · have h : tegulalaw47_DurableReplaced.l0 20 2 ((128 + (y - 128) : Nat) : Int) [] 0 = some true := repl_2_2 ⟨y - 128, by omega⟩
    rwa [show 128 + (y - 128) = y by omega] at h
  · have h : tegulalaw47_DurableReplaced.l0 20 2 ((192 + (y - 192) : Nat) : Int) [] 0 = some true := repl_2_3 ⟨y - 192, by omega⟩
    rwa [show 192 + (y - 192) = y by omega] at h
theorem repl_3_0 : ∀ y : Fin 64, tegulalaw47_DurableReplaced.l0 20 3 (((0 + y.val : Nat)) : Int) [] 0 = some true := by decide +kernel
theorem repl_3_1 : ∀ y : Fin 64, tegulalaw47_DurableReplaced.l0 20 3 (((64 + y.val : Nat)) : Int) [] 0 = some true := by decide +kernel
theorem repl_3_2 : ∀ y : Fin 64, tegulalaw47_DurableReplaced.l0 20 3 (((128 + y.val : Nat)) : Int) [] 0 = some true := by decide +kernel
theorem repl_3_3 : ∀ y : Fin 64, tegulalaw47_DurableReplaced.l0 20 3 (((192 + y.val : Nat)) : Int) [] 0 = some true := by decide +kernel
theorem repl_3 (y : Nat) (h : y < 256) : tegulalaw47_DurableReplaced.l0 20 3 (y : Int) [] 0 = some true := by
  by_cases h0 : y < 64
  · have h : tegulalaw47_DurableReplaced.l0 20 3 ((0 + y : Nat) : Int) [] 0 = some true := repl_3_0 ⟨y, h0⟩
    rwa [show 0 + y = y by omega] at h
  by_cases h1 : y < 128
  · have h : tegulalaw47_DurableReplaced.l0 20 3 ((64 + (y - 64) : Nat) : Int) [] 0 = some true := repl_3_1 ⟨y - 64, by omega⟩
    rwa [show 64 + (y - 64) = y by omega] at h
  by_cases h2 : y < 192
  · have h : tegulalaw47_DurableReplaced.l0 20 3 ((128 + (y - 128) : Nat) : Int) [] 0 = some true := repl_3_2 ⟨y - 128, by omega⟩
    rwa [show 128 + (y - 128) = y by omega] at h
  · have h : tegulalaw47_DurableReplaced.l0 20 3 ((192 + (y - 192) : Nat) : Int) [] 0 = some true := repl_3_3 ⟨y - 192, by omega⟩
    rwa [show 192 + (y - 192) = y by omega] at h
theorem repl_4_0 : ∀ y : Fin 64, tegulalaw47_DurableReplaced.l0 20 4 (((0 + y.val : Nat)) : Int) [] 0 = some true := by decide +kernel
theorem repl_4_1 : ∀ y : Fin 64, tegulalaw47_DurableReplaced.l0 20 4 (((64 + y.val : Nat)) : Int) [] 0 = some true := by decide +kernel
theorem repl_4_2 : ∀ y : Fin 64, tegulalaw47_DurableReplaced.l0 20 4 (((128 + y.val : Nat)) : Int) [] 0 = some true := by decide +kernel
theorem repl_4_3 : ∀ y : Fin 64, tegulalaw47_DurableReplaced.l0 20 4 (((192 + y.val : Nat)) : Int) [] 0 = some true := by decide +kernel
theorem repl_4 (y : Nat) (h : y < 256) : tegulalaw47_DurableReplaced.l0 20 4 (y : Int) [] 0 = some true := by
  by_cases h0 : y < 64
  · have h : tegulalaw47_DurableReplaced.l0 20 4 ((0 + y : Nat) : Int) [] 0 = some true := repl_4_0 ⟨y, h0⟩
    rwa [show 0 + y = y by omega] at h
  by_cases h1 : y < 128
  · have h : tegulalaw47_DurableReplaced.l0 20 4 ((64 + (y - 64) : Nat) : Int) [] 0 = some true := repl_4_1 ⟨y - 64, by omega⟩
    rwa [show 64 + (y - 64) = y by omega] at h
  by_cases h2 : y < 192
  · have h : tegulalaw47_DurableReplaced.l0 20 4 ((128 + (y - 128) : Nat) : Int) [] 0 = some true := repl_4_2 ⟨y - 128, by omega⟩
    rwa [show 128 + (y - 128) = y by omega] at h
  · have h : tegulalaw47_DurableReplaced.l0 20 4 ((192 + (y - 192) : Nat) : Int) [] 0 = some true := repl_4_3 ⟨y - 192, by omega⟩
    rwa [show 192 + (y - 192) = y by omega] at h
theorem repl_5_0 : ∀ y : Fin 64, tegulalaw47_DurableReplaced.l0 20 5 (((0 + y.val : Nat)) : Int) [] 0 = some true := by decide +kernel
theorem repl_5_1 : ∀ y : Fin 64, tegulalaw47_DurableReplaced.l0 20 5 (((64 + y.val : Nat)) : Int) [] 0 = some true := by decide +kernel
theorem repl_5_2 : ∀ y : Fin 64, tegulalaw47_DurableReplaced.l0 20 5 (((128 + y.val : Nat)) : Int) [] 0 = some true := by decide +kernel
theorem repl_5_3 : ∀ y : Fin 64, tegulalaw47_DurableReplaced.l0 20 5 (((192 + y.val : Nat)) : Int) [] 0 = some true := by decide +kernel
theorem repl_5 (y : Nat) (h : y < 256) : tegulalaw47_DurableReplaced.l0 20 5 (y : Int) [] 0 = some true := by
  by_cases h0 : y < 64
  · have h : tegulalaw47_DurableReplaced.l0 20 5 ((0 + y : Nat) : Int) [] 0 = some true := repl_5_0 ⟨y, h0⟩
    rwa [show 0 + y = y by omega] at h
  by_cases h1 : y < 128
  · have h : tegulalaw47_DurableReplaced.l0 20 5 ((64 + (y - 64) : Nat) : Int) [] 0 = some true := repl_5_1 ⟨y - 64, by omega⟩
    rwa [show 64 + (y - 64) = y by omega] at h
  by_cases h2 : y < 192
  · have h : tegulalaw47_DurableReplaced.l0 20 5 ((128 + (y - 128) : Nat) : Int) [] 0 = some true := repl_5_2 ⟨y - 128, by omega⟩
    rwa [show 128 + (y - 128) = y by omega] at h
  · have h : tegulalaw47_DurableReplaced.l0 20 5 ((192 + (y - 192) : Nat) : Int) [] 0 = some true := repl_5_3 ⟨y - 192, by omega⟩
    rwa [show 192 + (y - 192) = y by omega] at h
theorem repl_6_0 : ∀ y : Fin 64, tegulalaw47_DurableReplaced.l0 20 6 (((0 + y.val : Nat)) : Int) [] 0 = some true := by decide +kernel
theorem repl_6_1 : ∀ y : Fin 64, tegulalaw47_DurableReplaced.l0 20 6 (((64 + y.val : Nat)) : Int) [] 0 = some true := by decide +kernel
theorem repl_6_2 : ∀ y : Fin 64, tegulalaw47_DurableReplaced.l0 20 6 (((128 + y.val : Nat)) : Int) [] 0 = some true := by decide +kernel
theorem repl_6_3 : ∀ y : Fin 64, tegulalaw47_DurableReplaced.l0 20 6 (((192 + y.val : Nat)) : Int) [] 0 = some true := by decide +kernel
theorem repl_6 (y : Nat) (h : y < 256) : tegulalaw47_DurableReplaced.l0 20 6 (y : Int) [] 0 = some true := by
  by_cases h0 : y < 64
  · have h : tegulalaw47_DurableReplaced.l0 20 6 ((0 + y : Nat) : Int) [] 0 = some true := repl_6_0 ⟨y, h0⟩
    rwa [show 0 + y = y by omega] at h
  by_cases h1 : y < 128
  · have h : tegulalaw47_DurableReplaced.l0 20 6 ((64 + (y - 64) : Nat) : Int) [] 0 = some true := repl_6_1 ⟨y - 64, by omega⟩
    rwa [show 64 + (y - 64) = y by omega] at h
  by_cases h2 : y < 192
  · have h : tegulalaw47_DurableReplaced.l0 20 6 ((128 + (y - 128) : Nat) : Int) [] 0 = some true := repl_6_2 ⟨y - 128, by omega⟩
    rwa [show 128 + (y - 128) = y by omega] at h
  · have h : tegulalaw47_DurableReplaced.l0 20 6 ((192 + (y - 192) : Nat) : Int) [] 0 = some true := repl_6_3 ⟨y - 192, by omega⟩
    rwa [show 192 + (y - 192) = y by omega] at h
theorem repl_7_0 : ∀ y : Fin 64, tegulalaw47_DurableReplaced.l0 20 7 (((0 + y.val : Nat)) : Int) [] 0 = some true := by decide +kernel
theorem repl_7_1 : ∀ y : Fin 64, tegulalaw47_DurableReplaced.l0 20 7 (((64 + y.val : Nat)) : Int) [] 0 = some true := by decide +kernel
theorem repl_7_2 : ∀ y : Fin 64, tegulalaw47_DurableReplaced.l0 20 7 (((128 + y.val : Nat)) : Int) [] 0 = some true := by decide +kernel
theorem repl_7_3 : ∀ y : Fin 64, tegulalaw47_DurableReplaced.l0 20 7 (((192 + y.val : Nat)) : Int) [] 0 = some true := by decide +kernel
theorem repl_7 (y : Nat) (h : y < 256) : tegulalaw47_DurableReplaced.l0 20 7 (y : Int) [] 0 = some true := by
  by_cases h0 : y < 64
  · have h : tegulalaw47_DurableReplaced.l0 20 7 ((0 + y : Nat) : Int) [] 0 = some true := repl_7_0 ⟨y, h0⟩
    rwa [show 0 + y = y by omega] at h
  by_cases h1 : y < 128
  · have h : tegulalaw47_DurableReplaced.l0 20 7 ((64 + (y - 64) : Nat) : Int) [] 0 = some true := repl_7_1 ⟨y - 64, by omega⟩
    rwa [show 64 + (y - 64) = y by omega] at h
  by_cases h2 : y < 192
  · have h : tegulalaw47_DurableReplaced.l0 20 7 ((128 + (y - 128) : Nat) : Int) [] 0 = some true := repl_7_2 ⟨y - 128, by omega⟩
    rwa [show 128 + (y - 128) = y by omega] at h
  · have h : tegulalaw47_DurableReplaced.l0 20 7 ((192 + (y - 192) : Nat) : Int) [] 0 = some true := repl_7_3 ⟨y - 192, by omega⟩
    rwa [show 192 + (y - 192) = y by omega] at h
theorem repl_8_0 : ∀ y : Fin 64, tegulalaw47_DurableReplaced.l0 20 8 (((0 + y.val : Nat)) : Int) [] 0 = some true := by decide +kernel
theorem repl_8_1 : ∀ y : Fin 64, tegulalaw47_DurableReplaced.l0 20 8 (((64 + y.val : Nat)) : Int) [] 0 = some true := by decide +kernel
theorem repl_8_2 : ∀ y : Fin 64, tegulalaw47_DurableReplaced.l0 20 8 (((128 + y.val : Nat)) : Int) [] 0 = some true := by decide +kernel
theorem repl_8_3 : ∀ y : Fin 64, tegulalaw47_DurableReplaced.l0 20 8 (((192 + y.val : Nat)) : Int) [] 0 = some true := by decide +kernel
theorem repl_8 (y : Nat) (h : y < 256) : tegulalaw47_DurableReplaced.l0 20 8 (y : Int) [] 0 = some true := by
  by_cases h0 : y < 64
  · have h : tegulalaw47_DurableReplaced.l0 20 8 ((0 + y : Nat) : Int) [] 0 = some true := repl_8_0 ⟨y, h0⟩
    rwa [show 0 + y = y by omega] at h
  by_cases h1 : y < 128
  · have h : tegulalaw47_DurableReplaced.l0 20 8 ((64 + (y - 64) : Nat) : Int) [] 0 = some true := repl_8_1 ⟨y - 64, by omega⟩
    rwa [show 64 + (y - 64) = y by omega] at h
  by_cases h2 : y < 192
  · have h : tegulalaw47_DurableReplaced.l0 20 8 ((128 + (y - 128) : Nat) : Int) [] 0 = some true := repl_8_2 ⟨y - 128, by omega⟩
    rwa [show 128 + (y - 128) = y by omega] at h
  · have h : tegulalaw47_DurableReplaced.l0 20 8 ((192 + (y - 192) : Nat) : Int) [] 0 = some true := repl_8_3 ⟨y - 192, by omega⟩
    rwa [show 192 + (y - 192) = y by omega] at h
theorem repl_9_0 : ∀ y : Fin 64, tegulalaw47_DurableReplaced.l0 20 9 (((0 + y.val : Nat)) : Int) [] 0 = some true := by decide +kernel
theorem repl_9_1 : ∀ y : Fin 64, tegulalaw47_DurableReplaced.l0 20 9 (((64 + y.val : Nat)) : Int) [] 0 = some true := by decide +kernel
theorem repl_9_2 : ∀ y : Fin 64, tegulalaw47_DurableReplaced.l0 20 9 (((128 + y.val : Nat)) : Int) [] 0 = some true := by decide +kernel
theorem repl_9_3 : ∀ y : Fin 64, tegulalaw47_DurableReplaced.l0 20 9 (((192 + y.val : Nat)) : Int) [] 0 = some true := by decide +kernel
theorem repl_9 (y : Nat) (h : y < 256) : tegulalaw47_DurableReplaced.l0 20 9 (y : Int) [] 0 = some true := by
  by_cases h0 : y < 64
  · have h : tegulalaw47_DurableReplaced.l0 20 9 ((0 + y : Nat) : Int) [] 0 = some true := repl_9_0 ⟨y, h0⟩
    rwa [show 0 + y = y by omega] at h
  by_cases h1 : y < 128
  · have h : tegulalaw47_DurableReplaced.l0 20 9 ((64 + (y - 64) : Nat) : Int) [] 0 = some true := repl_9_1 ⟨y - 64, by omega⟩
    rwa [show 64 + (y - 64) = y by omega] at h
  by_cases h2 : y < 192
  · have h : tegulalaw47_DurableReplaced.l0 20 9 ((128 + (y - 128) : Nat) : Int) [] 0 = some true := repl_9_2 ⟨y - 128, by omega⟩
    rwa [show 128 + (y - 128) = y by omega] at h
  · have h : tegulalaw47_DurableReplaced.l0 20 9 ((192 + (y - 192) : Nat) : Int) [] 0 = some true := repl_9_3 ⟨y - 192, by omega⟩
    rwa [show 192 + (y - 192) = y by omega] at h
theorem repl_10_0 : ∀ y : Fin 64, tegulalaw47_DurableReplaced.l0 20 10 (((0 + y.val : Nat)) : Int) [] 0 = some true := by decide +kernel
theorem repl_10_1 : ∀ y : Fin 64, tegulalaw47_DurableReplaced.l0 20 10 (((64 + y.val : Nat)) : Int) [] 0 = some true := by decide +kernel
theorem repl_10_2 : ∀ y : Fin 64, tegulalaw47_DurableReplaced.l0 20 10 (((128 + y.val : Nat)) : Int) [] 0 = some true := by decide +kernel
theorem repl_10_3 : ∀ y : Fin 64, tegulalaw47_DurableReplaced.l0 20 10 (((192 + y.val : Nat)) : Int) [] 0 = some true := by decide +kernel
theorem repl_10 (y : Nat) (h : y < 256) : tegulalaw47_DurableReplaced.l0 20 10 (y : Int) [] 0 = some true := by
  by_cases h0 : y < 64
  · have h : tegulalaw47_DurableReplaced.l0 20 10 ((0 + y : Nat) : Int) [] 0 = some true := repl_10_0 ⟨y, h0⟩
    rwa [show 0 + y = y by omega] at h
  by_cases h1 : y < 128
  · have h : tegulalaw47_DurableReplaced.l0 20 10 ((64 + (y - 64) : Nat) : Int) [] 0 = some true := repl_10_1 ⟨y - 64, by omega⟩
    rwa [show 64 + (y - 64) = y by omega] at h
  by_cases h2 : y < 192
  · have h : tegulalaw47_DurableReplaced.l0 20 10 ((128 + (y - 128) : Nat) : Int) [] 0 = some true := repl_10_2 ⟨y - 128, by omega⟩
    rwa [show 128 + (y - 128) = y by omega] at h
  · have h : tegulalaw47_DurableReplaced.l0 20 10 ((192 + (y - 192) : Nat) : Int) [] 0 = some true := repl_10_3 ⟨y - 192, by omega⟩
    rwa [show 192 + (y - 192) = y by omega] at h
theorem repl_11_0 : ∀ y : Fin 64, tegulalaw47_DurableReplaced.l0 20 11 (((0 + y.val : Nat)) : Int) [] 0 = some true := by decide +kernel
theorem repl_11_1 : ∀ y : Fin 64, tegulalaw47_DurableReplaced.l0 20 11 (((64 + y.val : Nat)) : Int) [] 0 = some true := by decide +kernel
theorem repl_11_2 : ∀ y : Fin 64, tegulalaw47_DurableReplaced.l0 20 11 (((128 + y.val : Nat)) : Int) [] 0 = some true := by decide +kernel
theorem repl_11_3 : ∀ y : Fin 64, tegulalaw47_DurableReplaced.l0 20 11 (((192 + y.val : Nat)) : Int) [] 0 = some true := by decide +kernel
theorem repl_11 (y : Nat) (h : y < 256) : tegulalaw47_DurableReplaced.l0 20 11 (y : Int) [] 0 = some true := by
  by_cases h0 : y < 64
  · have h : tegulalaw47_DurableReplaced.l0 20 11 ((0 + y : Nat) : Int) [] 0 = some true := repl_11_0 ⟨y, h0⟩
    rwa [show 0 + y = y by omega] at h
  by_cases h1 : y < 128
  · have h : tegulalaw47_DurableReplaced.l0 20 11 ((64 + (y - 64) : Nat) : Int) [] 0 = some true := repl_11_1 ⟨y - 64, by omega⟩
    rwa [show 64 + (y - 64) = y by omega] at h
  by_cases h2 : y < 192
  · have h : tegulalaw47_DurableReplaced.l0 20 11 ((128 + (y - 128) : Nat) : Int) [] 0 = some true := repl_11_2 ⟨y - 128, by omega⟩
    rwa [show 128 + (y - 128) = y by omega] at h
  · have h : tegulalaw47_DurableReplaced.l0 20 11 ((192 + (y - 192) : Nat) : Int) [] 0 = some true := repl_11_3 ⟨y - 192, by omega⟩
    rwa [show 192 + (y - 192) = y by omega] at h
theorem repl_12_0 : ∀ y : Fin 64, tegulalaw47_DurableReplaced.l0 20 12 (((0 + y.val : Nat)) : Int) [] 0 = some true := by decide +kernel
theorem repl_12_1 : ∀ y : Fin 64, tegulalaw47_DurableReplaced.l0 20 12 (((64 + y.val : Nat)) : Int) [] 0 = some true := by decide +kernel
theorem repl_12_2 : ∀ y : Fin 64, tegulalaw47_DurableReplaced.l0 20 12 (((128 + y.val : Nat)) : Int) [] 0 = some true := by decide +kernel
theorem repl_12_3 : ∀ y : Fin 64, tegulalaw47_DurableReplaced.l0 20 12 (((192 + y.val : Nat)) : Int) [] 0 = some true := by decide +kernel
theorem repl_12 (y : Nat) (h : y < 256) : tegulalaw47_DurableReplaced.l0 20 12 (y : Int) [] 0 = some true := by
  by_cases h0 : y < 64
  · have h : tegulalaw47_DurableReplaced.l0 20 12 ((0 + y : Nat) : Int) [] 0 = some true := repl_12_0 ⟨y, h0⟩
    rwa [show 0 + y = y by omega] at h
  by_cases h1 : y < 128
  · have h : tegulalaw47_DurableReplaced.l0 20 12 ((64 + (y - 64) : Nat) : Int) [] 0 = some true := repl_12_1 ⟨y - 64, by omega⟩
    rwa [show 64 + (y - 64) = y by omega] at h
  by_cases h2 : y < 192
  · have h : tegulalaw47_DurableReplaced.l0 20 12 ((128 + (y - 128) : Nat) : Int) [] 0 = some true := repl_12_2 ⟨y - 128, by omega⟩
    rwa [show 128 + (y - 128) = y by omega] at h
  · have h : tegulalaw47_DurableReplaced.l0 20 12 ((192 + (y - 192) : Nat) : Int) [] 0 = some true := repl_12_3 ⟨y - 192, by omega⟩
    rwa [show 192 + (y - 192) = y by omega] at h
theorem replaced_pure : tegulalaw47_DurableReplaced.Pure := by
  intro a0 a1 h0 h1
  obtain ⟨x, hx, rfl⟩ := u8_nat h0
  obtain ⟨y, hy, rfl⟩ := u8_nat h1
  refine ⟨20, ?_⟩
  unfold tegulalaw47_DurableReplaced.f
  rw [awake47_true, Option.bind_some, if_pos rfl, wrap_tmod13 ⟨x, hx⟩, wrap_u8 ⟨y, hy⟩]
  have hk : x % 13 < 13 := Nat.mod_lt _ (by decide)
  show tegulalaw47_DurableReplaced.l0 20 ((x % 13 : Nat) : Int) (y : Int) [] 0 = some true
  generalize x % 13 = k at hk
  match k, hk with
  | 0, _ => exact repl_0 y hy
  | 1, _ => exact repl_1 y hy
  | 2, _ => exact repl_2 y hy
  | 3, _ => exact repl_3 y hy
  | 4, _ => exact repl_4 y hy
  | 5, _ => exact repl_5 y hy
  | 6, _ => exact repl_6 y hy
  | 7, _ => exact repl_7 y hy
  | 8, _ => exact repl_8 y hy
  | 9, _ => exact repl_9 y hy
  | 10, _ => exact repl_10 y hy
  | 11, _ => exact repl_11 y hy
  | 12, _ => exact repl_12 y hy
end Go.Proofs.Ytidghmgaaenihaa.Q
