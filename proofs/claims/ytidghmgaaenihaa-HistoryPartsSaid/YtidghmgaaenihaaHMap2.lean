/- Laws on a map whose keys are pairs of ints (a struct), its entries known one by one. -/
import Derived.Test.YtidghmgaaenihaaHIndex
namespace Go.Proofs.Ytidghmgaaenihaa.Q
open Go.RowKit Go.Proofs.YtidghmgaaenihaaW.PrintWords Go.Proofs.YtidghmgaaenihaaW.PrintLast Go.Proofs.YtidghmgaaenihaaW.PrintMore
open Go.MapKept
set_option linter.unusedVariables false
set_option linter.unusedSimpArgs false

def key2 (r v : Int) : Value := .agg #[.int .i64 r, .int .i64 v]
theorem eqA145 (d : Nat) (w : World) (x0 y0 : Int) (x1 y1 : Int) :
    (Op.equalIn (d + 2) 145 (key2 x0 x1) (key2 y0 y1)).run Try.prog w = .ok (x0 == y0 && (x1 == y1)) w := by
  refine eqA_of Try.underlying145 (by kernel_rfl) ?_
  refine eqf_cons (by rfl) (by go_simp; rfl) (by go_simp; rfl) (by go_simp) ?_
  exact eqf_last (by rfl) (by go_simp; rfl) (by go_simp; rfl) (by go_simp)
theorem equal145 (w : World) (x0 y0 : Int) (x1 y1 : Int) : (Op.equal 145 (key2 x0 x1) (key2 y0 y1)).run Try.prog w = .ok (x0 == y0 && (x1 == y1)) w := eqA145 9998 w x0 y0 x1 y1
theorem check145 (em : Bool) (w : World) (r v : Int) : (Instr.checkKey em 10000 145 (key2 r v)).run Try.prog w = .ok () w := by
  cases em <;> kernel_rfl
/-- The entries of such a map: keys and elements, in the order in which they came. -/
def ents2 (ks : List ((Int × Int) × Value)) : List MapEntry := List.zipWith (fun (p : (Int × Int) × Value) i => ⟨key2 p.1.1 p.1.2, p.2, i⟩) ks (List.range ks.length)
def look2 (ks : List ((Int × Int) × Value)) (r v : Int) : Option Value := (ks.find? (fun p => p.1.1 == r && p.1.2 == v)).map (·.2)

theorem ents2_snoc (ks : List ((Int × Int) × Value)) (p : (Int × Int) × Value) : ents2 (ks ++ [p]) = ents2 ks ++ [⟨key2 p.1.1 p.1.2, p.2, ks.length⟩] := by
  unfold ents2
  rw [List.length_append, List.length_singleton, List.range_succ, List.zipWith_append (by simp)]
  rfl
theorem ask2 (w : World) (r v : Int) : ∀ (ks : List ((Int × Int) × Value)) (ns : List Nat) (i : Nat), ns.length = ks.length →
    ∃ j : Nat, (Instr.findAsking 145 (key2 r v) (List.zipWith (fun (p : (Int × Int) × Value) n => ⟨key2 p.1.1 p.1.2, p.2, n⟩) ks ns) i).run Try.prog w = .ok ((look2 ks r v).map (fun x => (j, x))) w
  | [], [], i, _ => ⟨0, rfl⟩
  | p :: ks, n :: ns, i, h => by
    obtain ⟨j, hj⟩ := ask2 w r v ks ns (i + 1) (by simpa using h)
    simp only [List.zipWith_cons_cons, Instr.findAsking]
    have he := equal145 w r p.1.1 v p.1.2
    cases hc : (r == p.1.1 && (v == p.1.2)) with
    | true =>
      refine ⟨i, ?_⟩
      have hc2 : (p.1.1 == r && p.1.2 == v) = true := by simp at hc ⊢; exact ⟨hc.1.symm, hc.2.symm⟩
      simp [he, hc, Result.andThen, look2, List.find?_cons, hc2]
    | false =>
      refine ⟨j, ?_⟩
      have hc2 : (p.1.1 == r && p.1.2 == v) = false := by
        cases h1 : (p.1.1 == r) <;> cases h2 : (p.1.2 == v) <;> simp_all
      have e2 : look2 (p :: ks) r v = look2 ks r v := by simp [look2, List.find?_cons, hc2]
      rw [e2]
      simp [he, hc, Result.andThen, hj]
theorem find2 (w : World) (ks : List ((Int × Int) × Value)) (r v : Int) : ∃ j : Nat, (Instr.findKey 145 (key2 r v) (ents2 ks)).run Try.prog w = .ok ((look2 ks r v).map (fun x => (j, x))) w := by
  obtain ⟨j, hj⟩ := ask2 w r v ks (List.range ks.length) 0 (by simp)
  cases ks with
  | nil => exact ⟨0, by simp [Instr.findKey, run_underlying Try.underlying145, Result.andThen, ents2, Instr.findNow, look2]⟩
  | cons p ks =>
    refine ⟨j, ?_⟩
    have hn : ∀ fs, Instr.findNow (.struct fs) (key2 r v) (ents2 (p :: ks)) 0 = none := by intro fs; simp [ents2, List.range_succ_eq_map, Instr.findNow, Instr.sameNow, key2]
    simp [Instr.findKey, run_underlying Try.underlying145, Result.andThen, hn]
    exact hj
theorem look2_run (w : World) {B clock : Nat} {ks : List ((Int × Int) × Value)} (hb : w.heap[B]? = some (.map (ents2 ks).toArray clock)) (r v : Int) :
    (Instr.lookup 87 (.map (some B)) (key2 r v) false).run Try.prog w = .ok ((look2 ks r v).getD (.pointer none)) w := by
  obtain ⟨j, hj⟩ := find2 w ks r v
  cases hl : look2 ks r v with
  | none => rw [hl] at hj; simp [Instr.lookup, run_underlying Try.underlying87, MapKept.run_getObj_map hb, check145, hj, zero113, Result.andThen]
  | some x => rw [hl] at hj; simp [Instr.lookup, run_underlying Try.underlying87, MapKept.run_getObj_map hb, check145, hj, Result.andThen]
theorem store2_run (w : World) {B : Nat} {ks : List ((Int × Int) × Value)} (hb : w.heap[B]? = some (.map (ents2 ks).toArray ks.length)) (r v : Int) (x : Value) (hn : look2 ks r v = none) :
    (Instr.mapUpdate 87 (.map (some B)) (key2 r v) x).run Try.prog w = .ok () (ChangeMaps.setBlock w B (.map (ents2 (ks ++ [((r, v), x)])).toArray (ks.length + 1))) := by
  obtain ⟨j, hj⟩ := find2 w ks r v
  rw [hn] at hj
  have e : (ents2 ks).toArray.push ⟨key2 r v, x, ks.length⟩ = (ents2 (ks ++ [((r, v), x)])).toArray := by rw [ents2_snoc]; simp
  simp [Instr.mapUpdate, run_underlying Try.underlying87, MapKept.run_getObj_map hb, check145, hj, MapKept.run_setObj_map _ hb, Result.andThen, ChangeMaps.setBlock, e]

/-! The survives map: ids and bools. -/
def entsB (sv : List (Int × Bool)) : List MapEntry := List.zipWith (fun (p : Int × Bool) i => ⟨.int .i64 p.1, .bool p.2, i⟩) sv (List.range sv.length)
theorem entsB_snoc (sv : List (Int × Bool)) (p : Int × Bool) : entsB (sv ++ [p]) = entsB sv ++ [⟨.int .i64 p.1, .bool p.2, sv.length⟩] := by
  unfold entsB
  rw [List.length_append, List.length_singleton, List.range_succ, List.zipWith_append (by simp)]
  rfl
theorem entsB_mem {sv : List (Int × Bool)} {e : MapEntry} (h : e ∈ entsB sv) : ∃ p ∈ sv, e.key = .int .i64 p.1 ∧ e.val = .bool p.2 := by
  obtain ⟨j, hj⟩ := List.getElem?_of_mem h
  unfold entsB at hj
  obtain ⟨h1, h2⟩ := List.getElem?_eq_some_iff.1 hj
  simp only [List.length_zipWith, List.length_range] at h1
  simp only [List.getElem_zipWith, List.getElem_range] at h2
  subst h2
  exact ⟨_, List.getElem_mem (show j < sv.length by omega), rfl, rfl⟩
theorem entsB_has {sv : List (Int × Bool)} {p : Int × Bool} (h : p ∈ sv) : ∃ e ∈ entsB sv, e.key = .int .i64 p.1 := by
  obtain ⟨j, hj, e⟩ := List.mem_iff_getElem.1 h
  refine ⟨(entsB sv)[j]'(by simp [entsB]; omega), List.getElem_mem _, ?_⟩
  simp [entsB, e]
theorem entsB_key (sv : List (Int × Bool)) : ∀ x ∈ (entsB sv).toArray.toList, IsKey (.int .i64) x.key := by
  intro x hx
  obtain ⟨p, _, hk, _⟩ := entsB_mem (by simpa using hx)
  rw [hk]; rfl
/-- What the map says of an id. -/
def lookB (sv : List (Int × Bool)) (id : Int) : Bool := sv.any (fun p => p.1 == id && p.2)
theorem zero4 (w : World) : (zeroValue 4).run Try.prog w = .ok (.bool false) w := by kernel_rfl
theorem lookB_run (w : World) {B clock : Nat} {sv : List (Int × Bool)} (hb : w.heap[B]? = some (.map (entsB sv).toArray clock)) (hd : sv.Pairwise (fun a b => a.1 ≠ b.1)) (id : Int) :
    (Instr.lookup 88 (.map (some B)) (.int .i64 id) false).run Try.prog w = .ok (.bool (lookB sv id)) w := by
  rcases look_int (id := id) Try.underlying88 Try.underlying3 (zero4 w) hb (entsB_key sv) false with ⟨hr, hn⟩ | ⟨j, e, he, hk, hr⟩
  · have : lookB sv id = false := by
      unfold lookB
      rw [List.any_eq_false]
      intro p hp
      obtain ⟨e, he, hk⟩ := entsB_has hp
      have := hn e (by simpa using he)
      rw [hk] at this
      have : p.1 ≠ id := fun q => this (by rw [q])
      simp [this]
    rw [hr, this]; rfl
  · obtain ⟨p, hp, h1, h2⟩ := entsB_mem (List.mem_of_getElem? (by simpa using he))
    have hid : p.1 = id := (Value.int.inj (h1.symm.trans hk)).2
    have : lookB sv id = p.2 := by
      unfold lookB
      cases hb2 : p.2 with
      | true => exact List.any_eq_true.2 ⟨p, hp, by simp [hid, hb2]⟩
      | false =>
        rw [List.any_eq_false]
        intro q hq
        by_cases e : q.1 = id
        · have : q = p := by
            obtain ⟨i, hi, ei⟩ := List.mem_iff_getElem.1 hq
            obtain ⟨k, hk, ek⟩ := List.mem_iff_getElem.1 hp
            rw [List.pairwise_iff_getElem] at hd
            rcases Nat.lt_trichotomy i k with h | h | h
            · exact absurd (by rw [ei, ek, e, hid]) (hd i k hi hk h)
            · subst h; exact ei.symm.trans ek
            · exact absurd (by rw [ei, ek, e, hid]) (hd k i hk hi h)
          rw [this, hb2]; simp
        · simp [e]
    rw [hr, h2, this]; rfl
end Go.Proofs.Ytidghmgaaenihaa.Q
