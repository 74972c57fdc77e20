/- Texts of this claim, packed: HOpen, HOpen2, HOpen3. -/
import Derived.Test.YtidghmgaaenihaaQ0
import Derived.Deep.Slices
import Derived.Deep.Fields
import Derived.ChangeSame
import Derived.ChangeSlices
import Derived.WideKeyArr2
import Derived.Test.YtidghmgaaenihaaBHistoryChanged0
/-! part HOpen -/
namespace Go.Proofs.Ytidghmgaaenihaa.Q
open Go.RowKit Go.Proofs.YtidghmgaaenihaaW.PrintWords Go.Proofs.YtidghmgaaenihaaW.PrintLast Go.Proofs.YtidghmgaaenihaaW.PrintMore
open Go.ChangeShapes Go.WideShapes Go.Deep
set_option linter.unusedVariables false
instance : Inhabited S39 := ⟨⟨0, 0, false, 0, 0, false⟩⟩
end Go.Proofs.Ytidghmgaaenihaa.Q

/-! part HOpen2 -/
namespace Go.Proofs.Ytidghmgaaenihaa.Q
open Go.RowKit Go.Proofs.YtidghmgaaenihaaW.PrintWords Go.Proofs.YtidghmgaaenihaaW.PrintLast Go.Proofs.YtidghmgaaenihaaW.PrintMore
open Go.ChangeShapes Go.WideShapes Go.Deep Go.WideMaps
set_option linter.unusedVariables false
theorem u8_range {a : Int} (h : (Lit.int .u8 a).wf = true) : 0 ≤ a ∧ a < 256 := by
  have h2 : IntKind.u8.min ≤ a ∧ a ≤ IntKind.u8.max := by simpa [Lit.wf] using h
  have e1 : IntKind.u8.min = 0 := by decide
  have e2 : IntKind.u8.max = 255 := by decide
  omega
end Go.Proofs.Ytidghmgaaenihaa.Q

/-! part HOpen3 -/
namespace Go.Proofs.Ytidghmgaaenihaa.Q
open Go.RowKit Go.Proofs.YtidghmgaaenihaaW.PrintWords Go.Proofs.YtidghmgaaenihaaW.PrintLast Go.Proofs.YtidghmgaaenihaaW.PrintMore
open Go.ChangeShapes Go.WideShapes Go.Deep
set_option linter.unusedVariables false
theorem cellsOf69 : Try.prog.cellsOf 69 = 3 := by kernel_rfl
instance : Inhabited S69 := ⟨⟨0, 0, 0⟩⟩
theorem one69 (fs : Array Field) (h : Try.prog.underlying 69 = some (.struct fs)) : oneCellFields Try.prog fs = true := by
  rw [Try.underlying69] at h
  cases h
  kernel_rfl
theorem i8_range {a : Int} (h : (Lit.int .i8 a).wf = true) : -128 ≤ a ∧ a < 128 := by
  have h2 : IntKind.i8.min ≤ a ∧ a ≤ IntKind.i8.max := by simpa [Lit.wf] using h
  have e1 : IntKind.i8.min = -128 := by decide
  have e2 : IntKind.i8.max = 127 := by decide
  omega
set_option maxRecDepth 100000 in
theorem act_cells {H : Type} {enc : TypeId × Value → H} {w : World} {base : Nat} {spare : Nat → Bool} {held : Bool} {fuel : Nat} {cs : List Value} {x : DataW H × List MemPlace}
    (h : DataW.trod enc Try.prog w base spare held fuel 69 cs = some x) : ∃ e : S69, cs = [.int .u8 e.f0, .int .i8 e.f1, .int .i8 e.f2] ∧ okAct45 e := by
  obtain ⟨ys, n, _, _, hlen, hyl, hf⟩ := DataW.trod_struct Try.underlying69 h
  rw [cellsOf69] at hlen
  match cs, hlen with
  | [c0, c1, c2], _ =>
    match ys, hyl with
    | [y0, y1, y2], _ =>
      have hone := hone_of (one69 _ Try.underlying69)
      have g0 := hf 0 _ rfl
      obtain ⟨o0, z0⟩ := hone 0 _ rfl
      rw [o0, z0] at g0
      obtain ⟨n0, e0, -, w0⟩ := DataW.trod_int Try.underlying5 (show DataW.trod enc Try.prog w base spare held n 5 [c0] = some y0 from g0)
      have g1 := hf 1 _ rfl
      obtain ⟨o1, z1⟩ := hone 1 _ rfl
      rw [o1, z1] at g1
      obtain ⟨n1, e1, -, w1⟩ := DataW.trod_int Try.underlying67 (show DataW.trod enc Try.prog w base spare held n 67 [c1] = some y1 from g1)
      have g2 := hf 2 _ rfl
      obtain ⟨o2, z2⟩ := hone 2 _ rfl
      rw [o2, z2] at g2
      obtain ⟨n2, e2, -, w2⟩ := DataW.trod_int Try.underlying67 (show DataW.trod enc Try.prog w base spare held n 67 [c2] = some y2 from g2)
      refine ⟨⟨n0, n1, n2⟩, ?_, u8_range w0, i8_range w1, i8_range w2⟩
      simp only [List.cons.injEq, and_true] at e0 e1 e2
      rw [e0, e1, e2]
theorem open_acts45 {H : Type} {enc : TypeId × Value → H} {w : World} {base : Nat} {spare : Nat → Bool} {held : Bool} {fuel : Nat} {A : Option Addr} {len cap : Nat} {x : DataW H × List MemPlace}
    (h : DataW.trod enc Try.prog w base spare held fuel 61 [.slice A len cap] = some x) : ∃ l : List S69, l.length = len ∧ len ≤ cap ∧ Kd.C k69 w A len l ∧ ∀ x ∈ l, okAct45 x := by
  rcases open_slice Try.underlying61 h with ⟨hcs, _⟩ | ⟨a, len', cap', m, n, D, Pl, hcs, hb, hl, hm, hmm, hx, hi⟩
  · simp only [List.cons.injEq, Value.slice.injEq, and_true] at hcs
    obtain ⟨rfl, rfl, rfl⟩ := hcs
    exact ⟨[], rfl, Nat.le_refl _, ⟨rfl, by decide, fun h => absurd h (by decide)⟩, fun x hx => by cases hx⟩
  · simp only [List.cons.injEq, Value.slice.injEq, and_true] at hcs
    obtain ⟨rfl, rfl, rfl⟩ := hcs
    rw [cellsOf69] at hi
    have each : ∀ i, i < len → ∃ e : S69, okAct45 e ∧ ∀ j u, [Value.int .u8 e.f0, .int .i8 e.f1, .int .i8 e.f2][j]? = some u → w.cell? (a.add (i * 3 + j)) = some u := by
      intro i hil
      have him : i < m := by rw [hmm]; split <;> omega
      obtain ⟨cs', hc, ht⟩ := hi i him
      obtain ⟨e, rfl, hok⟩ := act_cells ht
      obtain ⟨_, _, hat⟩ := World.cells?_some hc
      refine ⟨e, hok, fun j u hj => ?_⟩
      have hj3 : j < 3 := (List.getElem?_eq_some_iff.1 hj).1
      rw [← Go.Deep.add_add, hat j hj3, hj]
    obtain ⟨q, hq⟩ := choose_lt each
    refine ⟨(List.range len).map q, by simp, hl, ⟨by simp, Nat.le_trans (Nat.le_trans hl hm) (by decide), fun _ => ⟨a, rfl, fun j p hj => ?_⟩⟩, fun x hx => ?_⟩
    · rw [List.getElem?_map] at hj
      obtain ⟨j', hj', rfl⟩ := Option.map_eq_some_iff.1 hj
      obtain ⟨hjl, e⟩ := List.getElem?_eq_some_iff.1 hj'
      rw [List.getElem_range] at e
      subst e
      rw [List.length_range] at hjl
      exact ⟨_, rfl, k69_mk w (q j), fun i u hu => (hq j hjl).2 i u hu⟩
    · obtain ⟨j, hj, rfl⟩ := List.mem_map.1 hx
      exact (hq j (List.mem_range.1 hj)).1
end Go.Proofs.Ytidghmgaaenihaa.Q
