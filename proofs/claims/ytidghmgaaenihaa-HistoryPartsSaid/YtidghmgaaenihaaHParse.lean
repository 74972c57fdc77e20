/- The Go function history.parse computes parseP of the events; its operations lie in a map of pointers. -/
import Derived.Test.YtidghmgaaenihaaHMap
import Derived.Test.YtidghmgaaenihaaQ95
import Derived.Test.YtidghmgaaenihaaQ96
import Derived.StillTailTactics
namespace Go.Proofs.Ytidghmgaaenihaa.Q
open Go.RowKit Go.Proofs.YtidghmgaaenihaaW.PrintWords Go.Proofs.YtidghmgaaenihaaW.PrintLast Go.Proofs.YtidghmgaaenihaaW.PrintMore
set_option linter.unusedVariables false
set_option linter.unusedSimpArgs false

def ParseYes (s : List S60 × Int) (w : World) (e : Ending) (w' : World) : Prop :=
  ∃ B v bs, e = .returned (.tuple #[.map (some B), v, .bool true]) ∧ MapOps w' w.heap.size B s.1 bs ∧ Kd.R (Kd.int .i64) 3 w' w.heap.size (fun _ => True) v (s.1.map (·.f0))
def ParsePost (l : List S39) (w : World) (e : Ending) (w' : World) : Prop :=
  Below w.heap.size w w' ∧ match parseP l with
    | none => e = .returned (.tuple #[.map none, .slice none 0 0, .bool false])
    | some s => ParseYes s w e w'

theorem zero113 (w : World) : (zeroValue 113).run Try.prog w = .ok (.pointer none) w := by kernel_rfl

theorem MapOps.look_none {w : World} {base B : Nat} {ops : List S60} {bs : List Nat} (h : MapOps w base B ops bs) {id : Int} (hn : at? ops id = none) :
    (Instr.lookup 110 (.map (some B)) (.int .i64 id) false).run Try.prog w = .ok (.pointer none) w := by
  rcases look_int (id := id) Try.underlying110 Try.underlying3 (zero113 w) h.blk (entOf_key h.len) false with ⟨hr, _⟩ | ⟨j, e, he, hk, _⟩
  · exact hr
  · obtain ⟨o, ho, b, h1, _⟩ := entOf_mem h.len (List.mem_of_getElem? (by simpa using he))
    exact absurd (Value.int.inj (h1.symm.trans hk)).2 (at?_none hn o ho)
theorem MapOps.look_some {w : World} {base B : Nat} {ops : List S60} {bs : List Nat} (h : MapOps w base B ops bs) (hd : ops.Pairwise (fun a b => a.f0 ≠ b.f0)) {id : Int} {j b : Nat} (hn : at? ops id = some j) (hb : bs[j]? = some b) :
    (Instr.lookup 110 (.map (some B)) (.int .i64 id) false).run Try.prog w = .ok (.pointer (some ⟨b, 0, none⟩)) w := by
  rcases look_int (id := id) Try.underlying110 Try.underlying3 (zero113 w) h.blk (entOf_key h.len) false with ⟨_, hr⟩ | ⟨i, e, he, hk, hr⟩
  · obtain ⟨h1, h2, _⟩ := at?_some hn
    obtain ⟨e, he, hk⟩ := entOf_has h.len h1
    exact absurd (hk.trans (by rw [h2])) (hr e (by simpa using he))
  · obtain ⟨c, hi, hc, hk', hv⟩ := entOf_at h.len (by simpa using he)
    have e1 := at?_is hd hi (Value.int.inj (hk'.symm.trans hk)).2
    rw [hn] at e1; cases e1
    rw [hb] at hc; cases hc
    rw [hr, hv]; rfl

section
variable {P : Program} {w : World} {ops : Array Oper} {rest : List Oper} {o : Oper} {a : Act} {Q : Exit → Act → World → Prop}
/-- 'm[k]', its value known. -/
theorem at_lookv (hgd : o.guard = none) (T : TypeId) (m x : Operand) (c : Bool) (hop : o.op = Op.lookup T m x c) {mv xv v : Value} (hm : a.eval m = mv) (hx : a.eval x = xv) (hr : (Instr.lookup T mv xv c).run P w = .ok v w)
    (h : wpList P ops Q rest (a.put o.dst v) w) : wpList P ops Q (o :: rest) a w := by
  refine wpList_plain hgd fun K' hK' => ?_
  unfold Oper.wp
  simp only [execOp, hop, hm, hx]
  simp [hr, Result.andThen]
  exact hK' _ _ h
end

theorem still_tail {P : Program} {id : Nat} {Q : Exit → Act → World → Prop} {a : Act} {w : World} {l : List Oper} (n : Nat) (hm : P.follows .mixedOrders = true) (hB : Region.lexTailB .any l.toArray n = true)
    (h : wpStill P l.toArray w.drew (fun a' => wpList P l.toArray Q (l.drop n) a' w.drew) (l.take n) a) : (Code.region id l.toArray true).wp P Q a w :=
  wp_region_still_tail n hm hB h
theorem no_end {l : List S39} {k : Nat} {x : Int} {e : S39} {s : List S60 × Int} (hx : x = k) (he : rd_T39 l x = e) (hlt : x < l.length) (hp : ptake l k = some s) (hs : pstep l x e s = none) : parseP l = none := by
  subst hx; subst he; exact parse_none l k (by omega) hp hs
theorem go_end {l : List S39} {k : Nat} {x : Int} {e : S39} {s s' : List S60 × Int} (hx : x = k) (he : rd_T39 l x = e) (hp : ptake l k = some s) (hs : pstep l x e s = some s') : ptake l (k + 1) = some s' := by
  subst hx; subst he; exact ptake_succ l k hp hs
theorem no_post {l : List S39} {w W : World} (hb : Below w.heap.size w W) (h : parseP l = none) : ParsePost l w (.returned (.tuple #[.map none, .slice none 0 0, .bool false])) W := ⟨hb, by rw [h]⟩

theorem proper_f (e0 e1 : Int) (e2 : Bool) (e3 e4 : Int) (e5 : Bool) : history_proper.f 1 e0 e1 e2 e3 e4 e5 = some (properB ⟨e0, e1, e2, e3, e4, e5⟩) := by
  unfold history_proper.f properB
  simp only [history_proper.j0, history_flush.f]
  by_cases h1 : e1 < 0 <;> by_cases h3 : e3 < 0 <;> by_cases h4 : e4 < 0 <;> cases e2 <;> cases e5 <;> simp [h1, h3, h4] <;> (try split) <;> simp_all
theorem answers_f (e0 e1 : Int) (e2 : Bool) (e3 e4 : Int) (e5 : Bool) (c : S39) : history_answers.f e0 e1 e2 e3 e4 e5 c.f0 c.f1 c.f2 c.f3 c.f4 c.f5 = some (answersB ⟨e0, e1, e2, e3, e4, e5⟩ c) := by
  unfold history_answers.f answersB
  cases e2 <;> cases e5 <;> simp <;> (try (cases c.f2 <;> cases c.f5 <;> simp [Bool.and_assoc])) <;> simp [Bool.and_assoc, Bool.and_comm, Bool.and_left_comm]

theorem below_setBlock {w W : World} {base B : Nat} {o : Obj} (h : Below base w W) (hB : base ≤ B) (hl : B < W.heap.size) : Below base w (ChangeMaps.setBlock W B o) := by
  refine ⟨h.os, h.tape, h.output, by simpa [ChangeMaps.setBlock] using h.size, fun k hk => ?_⟩
  rw [heap_setBlock _ hl, if_neg (by omega)]
  exact h.block k hk
theorem R_setBlock {α : Type} {d : Kd α} {e : Nat} {w : World} {base B ck : Nat} {ok : Nat → Prop} {v : Value} {xs : List α} {es : Array MapEntry} {o : Obj} (h : d.R e w base ok v xs) (hB : w.heap[B]? = some (.map es ck)) : d.R e (ChangeMaps.setBlock w B o) base ok v xs := by
  refine Kd.R_mono (Kd.R_move (Kd.R_bound h) (fun k hk => ?_)) (fun k hk => hk.1)
  obtain ⟨_, _, _, q, _, cells, hc⟩ := hk
  rw [heap_setBlock _ (Array.getElem?_eq_some_iff.1 hB).1, if_neg]
  intro e; subst e; rw [hB] at hc; cases hc
theorem blk_setBlock {w : World} {B g : Nat} {o o' : Obj} (h : w.heap[g]? = some o) (hB : B < w.heap.size) (hne : g ≠ B) : (ChangeMaps.setBlock w B o').heap[g]? = some o := by
  rw [heap_setBlock _ hB, if_neg hne]; exact h
theorem size_setBlock (w : World) (B : Nat) (o : Obj) : (ChangeMaps.setBlock w B o).heap.size = w.heap.size := by simp [ChangeMaps.setBlock]
theorem blk_new (w : World) (o : Obj) : (w.alloc o).heap[w.heap.size]? = some o := by show (w.heap.push _)[w.heap.size]? = _; simp
theorem blk_old {w w1 : World} {g : Nat} {o : Obj} (h : w.heap[g]? = some o) (hb : Below w.heap.size w w1) : w1.heap[g]? = some o := (hb.block g (Array.getElem?_eq_some_iff.1 h).1).trans h
theorem new_key {ops : List S60} {bs : List Nat} (hl : bs.length = ops.length) {id : Int} (h : at? ops id = none) : ∀ x ∈ (entOf ops bs).toArray.toList, x.key ≠ .int .i64 id := by
  intro x hx e
  obtain ⟨o, ho, b, hk, _⟩ := entOf_mem hl (by simpa using hx)
  exact at?_none h o ho (Value.int.inj (hk.symm.trans e)).2
/-- A row of numbers is no row of operations: the map of operations stays. -/
theorem MapOps.appended {w w1 : World} {base B : Nat} {ops : List S60} {bs : List Nat} {ok : Nat → Prop} {v : Value} {xs : List Int} (h : MapOps w base B ops bs) (hr : Kd.R (Kd.int .i64) 3 w base ok v xs) (hg : w.grownBy w1 v.ownBlock) : MapOps w1 base B ops bs :=
  h.grown hg (fun k cs t hk hc => by obtain ⟨cells, h1⟩ := Kd.R_typed hr k hk; rw [h1] at hc; cases hc; decide) (fun k hk => by obtain ⟨cells, h1⟩ := Kd.R_typed hr k hk; exact ⟨cells, 3, h1⟩)

theorem stored_facts {w w1 w2 : World} {g t : Nat} {cs : Array Value} {ops : List S60} {bs : List Nat} {v : Value} {xs : List Int} {o : S60} (HB : Below w.heap.size w w1) (HM : MapOps w1 w.heap.size w.heap.size ops bs) (HO : Kd.R (Kd.int .i64) 3 w1 w.heap.size (fun _ => True) v xs)
    (hg : w1.heap[g]? = some (.cells cs t (0, 0))) (hw : w2 = ChangeMaps.setBlock (w1.alloc (.cells (opCells o) 60)) w.heap.size (.map ((entOf ops bs).toArray.push ⟨.int .i64 o.f0, .pointer (some ⟨w1.heap.size, 0, none⟩), ops.length⟩) (ops.length + 1))) :
    Aside0 (Below w.heap.size w w2) ∧ Aside0 (MapOps w2 w.heap.size w.heap.size (ops ++ [o]) (bs ++ [w1.heap.size])) ∧ Aside0 (Kd.R (Kd.int .i64) 3 w2 w.heap.size (fun _ => True) v xs) ∧ w2.heap[g]? = some (.cells cs t (0, 0)) := by
  have hm := HM.below (below_alloc (Below.refl _ _) (.cells (opCells o) 60))
  have hl := hm.lt
  have hs := HM.lt
  have hgl := (Array.getElem?_eq_some_iff.1 hg).1
  refine ⟨⟨?_⟩, ⟨?_⟩, ⟨?_⟩, ?_⟩
  · rw [hw]; exact below_setBlock (below_alloc HB _) (Nat.le_refl _) hl.1
  · exact hm.push (blk_new w1 _) (fun hc => by have := hs.2 _ hc; omega) (by have := HB.size; omega) hw
  · rw [hw]; exact R_setBlock (Kd.R_alloc HO _) hm.blk
  · rw [hw]
    refine blk_setBlock (blk_old hg (below_alloc (Below.refl _ _) _)) hl.1 ?_
    intro e; subst e; rw [HM.blk] at hg; cases hg

theorem set_ids (ops : List S60) (j : Nat) (o : S60) (h : o.f0 = (opAt ops j).f0) : (ops.set j o).map (·.f0) = ops.map (·.f0) := by
  apply List.ext_getElem
  · simp
  · intro i h1 h2
    simp only [List.getElem_map, List.getElem_set]
    split
    · rename_i q; subst q
      have hj : j < ops.length := by simpa using h2
      rw [h]; simp [opAt, List.getD_eq_getElem?_getD, hj]
    · rfl
theorem turned_facts {w w1 : World} {ops : List S60} {bs : List Nat} {v : Value} {j b : Nat} {o o' : S60} {x u : Int} (ho' : o' = { o with f7 := x, f2 := u }) (HB : Below w.heap.size w w1) (HM : MapOps w1 w.heap.size w.heap.size ops bs) (HO : Kd.R (Kd.int .i64) 3 w1 w.heap.size (fun _ => True) v (ops.map (·.f0)))
    (hj : bs[j]? = some b) (ho : opAt ops j = o) (hb : w1.heap[b]? = some (.cells (opCells o) 60 (0, 0))) :
    Aside0 (Below w.heap.size w ((w1.setCell ⟨b, 7, none⟩ (.int .i64 x)).setCell ⟨b, 2, none⟩ (.int .i64 u))) ∧ Aside0 (MapOps ((w1.setCell ⟨b, 7, none⟩ (.int .i64 x)).setCell ⟨b, 2, none⟩ (.int .i64 u)) w.heap.size w.heap.size (ops.set j o') bs) ∧
    Aside0 (Kd.R (Kd.int .i64) 3 ((w1.setCell ⟨b, 7, none⟩ (.int .i64 x)).setCell ⟨b, 2, none⟩ (.int .i64 u)) w.heap.size (fun _ => True) v ((ops.set j o').map (·.f0))) := by
  subst ho'
  have hbb := HM.own.2 b (List.mem_of_getElem? hj)
  have h1 : (w1.setCell ⟨b, 7, none⟩ (.int .i64 x)).heap[b]? = some (.cells (opCells { o with f7 := x }) 60 (0, 0)) := blk_put hb 7 _ rfl
  have h2 : ((w1.setCell ⟨b, 7, none⟩ (.int .i64 x)).setCell ⟨b, 2, none⟩ (.int .i64 u)).heap[b]? = some (.cells (opCells { o with f7 := x, f2 := u }) 60 (0, 0)) := blk_put h1 2 _ rfl
  refine ⟨⟨below_set (below_set HB hbb) hbb⟩, ⟨HM.turn hj (by rw [ho]) h2 (fun k hk => ?_)⟩, ⟨?_⟩⟩
  · rw [Below.heap_setCell _ _ _ k hk, Below.heap_setCell _ _ _ k hk]
  · rw [set_ids _ _ _ (by rw [ho])]
    exact Kd.R_set (Kd.R_set HO hb (by simp [Kd.int, Kd.scalar]) 7 _) h1 (by simp [Kd.int, Kd.scalar]) 2 _

attribute [local go_sem high] eqA39
set_option maxHeartbeats 2000000 in
set_option maxRecDepth 100000 in
theorem parse_any (A : Option Addr) (c : Nat) (l : List S39) (w : World) (hr : Kd.C k39 w A l.length l) (hc : l.length ≤ c) (hsz : l.length ≤ 1000000) :
    Calls Try.prog 65 #[.slice A l.length c] w (ParsePost l w) := by
  have HR := Aside0.mk hr
  clear hr
  have hmm := @run_makeMap Try.prog
  go_enter Try.func65, Try.ntmps65
  go_wp2
  go_loopw [6, 7, 14] (fun v6 v7 v14 wr => ∃ (k : Nat) (x era : Int) (ops : List S60) (bs : List Nat), Aside0 (x = k) ∧ 0 ≤ x ∧ x ≤ l.length ∧ v14 = .int .i64 x ∧ v7 = .int .i64 era ∧ 0 ≤ era ∧ era ≤ x ∧ Aside0 (ptake l k = some (ops, era)) ∧ Aside0 (Kd.R (Kd.int .i64) 3 wr w.heap.size (fun _ => True) v6 (ops.map (·.f0))) ∧ Aside0 (MapOps wr w.heap.size w.heap.size ops bs) ∧ Aside0 (Below w.heap.size w wr))
    (fun _ _ v14 _ => l.length - (intOf v14).toNat)
  case atStart =>
    exact ⟨0, 0, 0, [], [], ⟨rfl⟩, by omega, by omega, rfl, rfl, by omega, by omega, ⟨rfl⟩, ⟨Kd.R_nil _ _ _ _ _⟩, ⟨⟨rfl, by show (w.heap.push _)[w.heap.size]? = _; simp [entOf], by simp, by simp, by simp⟩⟩, ⟨below_alloc (Below.refl _ _) _⟩⟩
  case round =>
    obtain ⟨k, x, era, ops, bs, HX, hx0, hx1, rfl, rfl, he0, he1, HP, HO, HM, HB⟩ := hrel
    have HI := Aside0.mk (ptake_inv l k HP.out)
    by_cases hlt : x < l.length
    · obtain ⟨ad, eA, c0, c1, c2, c3, c4, c5⟩ := at_T39 (Kd.C_below HR.out HB.out) x hx0 hlt
      subst eA
      obtain ⟨e, HE⟩ : ∃ e, Aside0 (rd_T39 l x = e) := ⟨_, ⟨rfl⟩⟩
      rw [HE.out] at c0 c1 c2 c3 c4 c5
      obtain ⟨e0, e1, e2, e3, e4, e5⟩ := e
      simp only at c0 c1 c2 c3 c4 c5
      cases hq : at? ops e1 with
      | none =>
        have HQ := Aside0.mk hq
        clear hq
        by_cases k1 : e0 = 1
        · subst k1
          cases hp : properB ⟨1, e1, e2, e3, e4, e5⟩ with
          | false =>
            have HF := Aside0.mk ((proper_f 1 e1 e2 e3 e4 e5).trans (by rw [hp]))
            have hs : pstep l x ⟨1, e1, e2, e3, e4, e5⟩ (ops, era) = none := by simp [pstep, HQ.out, hp]
            have HS := Aside0.mk (no_end HX.out HE.out hlt HP.out hs)
            clear hs hp
            go_wp2_with (first | (at_lookup; refine at_lookv rfl 110 _ _ _ rfl rfl rfl ((HM.out.below (below_alloc (Below.refl _ _) _)).look_none HQ.out) ?_) | (go_at_call 95; (with_reducible refine (history_proper.calls 1 1 e1 e2 e3 e4 e5 false _ HF.out).mono ?_); rintro e w1 ⟨rfl, hb⟩))
            go_ret3
            exact no_post (below_step (by repeat (first | exact HB.out | apply below_alloc)) hb) HS.out
          | true =>
            have HF := Aside0.mk ((proper_f 1 e1 e2 e3 e4 e5).trans (by rw [hp]))
            have hs : pstep l x ⟨1, e1, e2, e3, e4, e5⟩ (ops, era) = some (ops ++ [newOp ⟨1, e1, e2, e3, e4, e5⟩ era x], era) := by simp [pstep, HQ.out, hp]
            have HS := Aside0.mk (go_end HX.out HE.out HP.out hs)
            clear hs hp
            go_wp2_with (at_lookup; refine at_lookv rfl 110 _ _ _ rfl rfl rfl ((HM.out.below (below_alloc (Below.refl _ _) _)).look_none HQ.out) ?_)
            (with_reducible refine (history_proper.calls 1 1 e1 e2 e3 e4 e5 true _ HF.out).mono ?_)
            rintro e w1 ⟨rfl, hb⟩
            have BK := Aside0.mk (blk_old (blk_new wr (.cells #[.int .i64 1, .int .i64 e1, .bool e2, .int .i64 e3, .int .i64 e4, .bool e5] 39)) hb)
            have d1 := (blk_cell BK.out 1).trans rfl
            have d2 := (blk_cell BK.out 2).trans rfl
            have d3 := (blk_cell BK.out 3).trans rfl
            have d4 := (blk_cell BK.out 4).trans rfl
            have d5 := (blk_cell BK.out 5).trans rfl
            have HB1 := Aside0.mk (below_step (by repeat (first | exact HB.out | apply below_alloc)) hb)
            have HM1 := Aside0.mk (MapOps.below (HM.out.below (below_alloc (Below.refl _ _) _)) hb)
            have HO1 := Aside0.mk (Kd.R_below (Kd.R_alloc HO.out (.cells #[.int .i64 1, .int .i64 e1, .bool e2, .int .i64 e3, .int .i64 e4, .bool e5] 39)) hb)
            have hwr := (below_size HB.out)
            have hw1 := hb.size
            clear hb
            have LM := Aside0.mk (show ops.length ≤ 1000000 by have h1 := HI.out.len; have h2 := HX.out; simp only at h1; omega)
            go_wp2_with (first | (at_mapUpdate; refine at_store rfl _ _ _ rfl Try.underlying110 Try.underlying3 rfl rfl rfl (HM1.out.below (below_alloc (Below.refl _ _) _)).blk (entOf_key HM1.out.len) (new_key HM1.out.len HQ.out) ?_; intro w2 hw2; obtain ⟨HB2, HM2, HO2, hg2⟩ := stored_facts (o := newOp ⟨1, e1, e2, e3, e4, e5⟩ era x) HB1.out HM1.out HO1.out BK.out hw2; have f1 := (blk_cell hg2 1).trans rfl; clear hw2 hg2) | (at_builtin; go_loud (refine Kd.R_append (Kd.int .i64) (w0 := w) w.heap.size rfl (.tmp 51) (.tmp 54) 40 3 (.int .i64 0) 8 rfl Try.underlying40 info3 rfl (by decide) (by omega) u6 (ops.map (·.f0)) e1 [.int .i64 e1] (fun _ => True) (fun _ => False) rfl rfl rfl (fun _ hk => hk.elim) (fun _ _ => trivial) HO2.out HB2.out (below_size HB2.out) (by have := LM.out; simp only [List.length_map]; omega) ?_); intro v1 w3 ho hb hg hat; have HM3 := Aside0.mk (HM2.out.appended HO2.out hg); have HO3 := Aside0.mk ho; have HB3 := Aside0.mk hb; clear ho hb hg hat))
            go_roundw
            case rel => exact ⟨k + 1, x + 1, era, ops ++ [newOp ⟨1, e1, e2, e3, e4, e5⟩ era x], bs ++ [w1.heap.size], ⟨by have := HX.out; omega⟩, by omega, by omega, rfl, rfl, by omega, by omega, HS, ⟨by have := HO3.out; rw [List.map_append]; exact this⟩, HM3, HB3⟩
            case measure => simp [intOf]; omega
        · have k1' : (e0 == 1) = false := by simpa using k1
          by_cases k2 : e0 = 2
          · subst k2
            have hs : pstep l x ⟨2, e1, e2, e3, e4, e5⟩ (ops, era) = none := by simp [pstep, HQ.out]
            have HS := Aside0.mk (no_end HX.out HE.out hlt HP.out hs)
            clear hs
            go_wp2_with (at_lookup; refine at_lookv rfl 110 _ _ _ rfl rfl rfl ((HM.out.below (below_alloc (Below.refl _ _) _)).look_none HQ.out) ?_)
            go_quiet (fail)
            go_wp2
            go_ret3
            exact no_post (by repeat (first | exact HB.out | apply below_alloc | apply pw_below_drewN)) HS.out
          · have k2' : (e0 == 2) = false := by simpa using k2
            by_cases k3 : e0 = 3
            · subst k3
              cases hp : isCut ⟨3, e1, e2, e3, e4, e5⟩ with
              | false =>
                have hs : pstep l x ⟨3, e1, e2, e3, e4, e5⟩ (ops, era) = none := by simp [pstep, hp]
                have HS := Aside0.mk (no_end HX.out HE.out hlt HP.out hs)
                have hp' : (e1 == 0 && (!e2 && (e3 == 0 && (e4 == 0 && !e5)))) = false := by simpa [isCut] using hp
                clear hs hp
                go_wp2_with (at_lookup; refine at_lookv rfl 110 _ _ _ rfl rfl rfl ((HM.out.below (below_alloc (Below.refl _ _) _)).look_none HQ.out) ?_)
                go_ret3
                exact no_post (by repeat (first | exact HB.out | apply below_alloc)) HS.out
              | true =>
                have hs : pstep l x ⟨3, e1, e2, e3, e4, e5⟩ (ops, era) = some (ops, era + 1) := by simp [pstep, hp]
                have HS := Aside0.mk (go_end HX.out HE.out HP.out hs)
                have hp' : (e1 == 0 && (!e2 && (e3 == 0 && (e4 == 0 && !e5)))) = true := by simpa [isCut] using hp
                clear hs hp
                go_wp2_with (at_lookup; refine at_lookv rfl 110 _ _ _ rfl rfl rfl ((HM.out.below (below_alloc (Below.refl _ _) _)).look_none HQ.out) ?_)
                go_roundw
                case rel => exact ⟨k + 1, x + 1, era + 1, ops, bs, ⟨by have := HX.out; omega⟩, by omega, by omega, rfl, rfl, by omega, by omega, HS, ⟨Kd.R_alloc HO.out _⟩, ⟨HM.out.below (below_alloc (Below.refl _ _) _)⟩, ⟨below_alloc HB.out _⟩⟩
                case measure => simp [intOf]; omega
            · have k3' : (e0 == 3) = false := by simpa using k3
              have hs : pstep l x ⟨e0, e1, e2, e3, e4, e5⟩ (ops, era) = none := by simp [pstep, k1, k2, k3]
              have HS := Aside0.mk (no_end HX.out HE.out hlt HP.out hs)
              clear hs
              go_wp2_with (at_lookup; refine at_lookv rfl 110 _ _ _ rfl rfl rfl ((HM.out.below (below_alloc (Below.refl _ _) _)).look_none HQ.out) ?_)
              go_ret3
              exact no_post (by repeat (first | exact HB.out | apply below_alloc)) HS.out
      | some j =>
        have HQ := Aside0.mk hq
        have hjl := (at?_some hq).1
        obtain ⟨b, hjb⟩ : ∃ b, bs[j]? = some b := ⟨_, List.getElem?_eq_getElem (by rw [HM.out.len]; exact hjl)⟩
        have HJ := Aside0.mk hjb
        clear hq hjb
        by_cases k1 : e0 = 1
        · subst k1
          have hs : pstep l x ⟨1, e1, e2, e3, e4, e5⟩ (ops, era) = none := by simp [pstep, HQ.out]
          have HS := Aside0.mk (no_end HX.out HE.out hlt HP.out hs)
          clear hs hjl
          go_wp2_with (at_lookup; refine at_lookv rfl 110 _ _ _ rfl rfl rfl ((HM.out.below (below_alloc (Below.refl _ _) _)).look_some HI.out.nodup HQ.out HJ.out) ?_)
          go_ret3
          exact no_post (by repeat (first | exact HB.out | apply below_alloc)) HS.out
        · have k1' : (e0 == 1) = false := by simpa using k1
          by_cases k2 : e0 = 2
          · subst k2
            obtain ⟨o, HOo⟩ : ∃ o, Aside0 (opAt ops j = o) := ⟨_, ⟨rfl⟩⟩
            have hcb := HM.out.cells j b HJ.out
            have hbw : b < wr.heap.size := (Array.getElem?_eq_some_iff.1 hcb).1
            rw [HOo.out] at hcb
            have ho6 := HI.out.call _ (at?_some HQ.out).2.2
            rw [HOo.out] at ho6
            obtain ⟨o0, o1, o2, o3, o4, o5, o6, o7⟩ := o
            have b5 : wr.cell? ⟨b, 5, none⟩ = some (.int .i64 o5) := (blk_cell hcb 5).trans rfl
            have b6 : wr.cell? ⟨b, 6, none⟩ = some (.int .i64 o6) := (blk_cell hcb 6).trans rfl
            have b7 : wr.cell? ⟨b, 7, none⟩ = some (.int .i64 o7) := (blk_cell hcb 7).trans rfl
            have BKo := Aside0.mk hcb
            clear hcb
            obtain ⟨ho60, ho61, ho00⟩ := ho6
            simp only at ho60 ho61 ho00
            have ho62 : o6 < l.length := by have := HX.out; omega
            clear hjl
            by_cases h7 : 0 ≤ o7
            · have hs : pstep l x ⟨2, e1, e2, e3, e4, e5⟩ (ops, era) = none := by simp [pstep, HQ.out, HOo.out, h7]
              have HS := Aside0.mk (no_end HX.out HE.out hlt HP.out hs)
              clear hs
              go_wp2_with (at_lookup; refine at_lookv rfl 110 _ _ _ rfl rfl rfl ((HM.out.below (below_alloc (Below.refl _ _) _)).look_some HI.out.nodup HQ.out HJ.out) ?_)
              go_quiet (fail)
              go_wp2
              go_ret3
              exact no_post (by repeat (first | exact HB.out | apply below_alloc | apply pw_below_drewN)) HS.out
            · have h7' : decide (0 ≤ o7) = false := by simpa using h7
              by_cases h5 : o5 = era
              · have h5' : (o5 != era) = false := by simpa using h5
                obtain ⟨ad', eA', g0, g1, g2, g3, g4, g5⟩ := at_T39 (Kd.C_below HR.out (below_alloc HB.out (.cells #[.int .i64 2, .int .i64 e1, .bool e2, .int .i64 e3, .int .i64 e4, .bool e5] 39))) o6 ho60 ho62
                obtain rfl : ad = ad' := by injection eA'
                obtain ⟨ec, HEC⟩ : ∃ ec, Aside0 (rd_T39 l o6 = ec) := ⟨_, ⟨rfl⟩⟩
                rw [HEC.out] at g0 g1 g2 g3 g4 g5
                clear eA'
                cases hp : answersB ⟨2, e1, e2, e3, e4, e5⟩ ec with
                | false =>
                  have HF := Aside0.mk ((answers_f 2 e1 e2 e3 e4 e5 ec).trans (by rw [hp]))
                  have hs : pstep l x ⟨2, e1, e2, e3, e4, e5⟩ (ops, era) = none := by simp [pstep, HQ.out, HOo.out, h7, h5, HEC.out, hp]
                  have HS := Aside0.mk (no_end HX.out HE.out hlt HP.out hs)
                  clear hs hp
                  go_wp2_with (at_lookup; refine at_lookv rfl 110 _ _ _ rfl rfl rfl ((HM.out.below (below_alloc (Below.refl _ _) _)).look_some HI.out.nodup HQ.out HJ.out) ?_)
                  refine still_tail 26 (by kernel_rfl) (by kernel_rfl) ?_
                  simp only [List.take_succ_cons, List.take_zero, List.drop_succ_cons, List.drop_zero]
                  repeat still_step
                  refine wpStill_nil ?_
                  go_wp2_with (go_at_call 96; (with_reducible refine (history_answers.calls 2 e1 e2 e3 e4 e5 ec.f0 ec.f1 ec.f2 ec.f3 ec.f4 ec.f5 false _ HF.out).mono ?_); rintro e w1 ⟨rfl, hb⟩)
                  go_ret3
                  exact no_post (below_step (by repeat (first | exact HB.out | apply below_alloc | apply below_drew)) hb) HS.out
                | true =>
                  have HF := Aside0.mk ((answers_f 2 e1 e2 e3 e4 e5 ec).trans (by rw [hp]))
                  have hs : pstep l x ⟨2, e1, e2, e3, e4, e5⟩ (ops, era) = some (ops.set j (doneOp ⟨o0, o1, o2, o3, o4, era, o6, o7⟩ ⟨2, e1, e2, e3, e4, e5⟩ x), era) := by simp [pstep, HQ.out, HOo.out, h7, h5, HEC.out, hp]
                  have HS := Aside0.mk (go_end HX.out HE.out HP.out hs)
                  clear hs hp
                  go_wp2_with (at_lookup; refine at_lookv rfl 110 _ _ _ rfl rfl rfl ((HM.out.below (below_alloc (Below.refl _ _) _)).look_some HI.out.nodup HQ.out HJ.out) ?_)
                  refine still_tail 26 (by kernel_rfl) (by kernel_rfl) ?_
                  simp only [List.take_succ_cons, List.take_zero, List.drop_succ_cons, List.drop_zero]
                  repeat still_step
                  refine wpStill_nil ?_
                  go_wp2_with fail
                  (with_reducible refine (history_answers.calls 2 e1 e2 e3 e4 e5 ec.f0 ec.f1 ec.f2 ec.f3 ec.f4 ec.f5 true _ HF.out).mono ?_)
                  rintro e w1 ⟨rfl, hb⟩
                  have hb0 : Below (wr.alloc (.cells #[.int .i64 2, .int .i64 e1, .bool e2, .int .i64 e3, .int .i64 e4, .bool e5] 39)).heap.size (wr.alloc (.cells #[.int .i64 2, .int .i64 e1, .bool e2, .int .i64 e3, .int .i64 e4, .bool e5] 39)) w1 := below_step (below_drew (Below.refl _ _)) hb
                  have hb1 : Below wr.heap.size wr w1 := below_step (below_alloc (Below.refl _ _) _) hb0
                  clear hb
                  have BK := Aside0.mk (blk_old (blk_new wr (.cells #[.int .i64 2, .int .i64 e1, .bool e2, .int .i64 e3, .int .i64 e4, .bool e5] 39)) hb0)
                  have BO := Aside0.mk (blk_old BKo.out hb1)
                  have d4 : w1.cell? ⟨wr.heap.size, 4, none⟩ = some (.int .i64 e4) := (blk_cell BK.out 4).trans rfl
                  have f2 : w1.cell? ⟨b, 2, none⟩ = some (.int .i64 o2) := (blk_cell BO.out 2).trans rfl
                  have f7 : w1.cell? ⟨b, 7, none⟩ = some (.int .i64 o7) := (blk_cell BO.out 7).trans rfl
                  have z2 := blk_frozen BO.out 2
                  have z7 := blk_frozen BO.out 7
                  have HB1 := Aside0.mk (below_step HB.out hb1)
                  have HM1 := Aside0.mk (HM.out.below hb1)
                  have HO1 := Aside0.mk (Kd.R_below HO.out hb1)
                  have hbw1 : b ≠ wr.heap.size := by omega
                  clear hb0 hb1 b5 b6 b7 g0 g1 g2 g3 g4 g5 c0 c1 c2 c3 c4 c5
                  go_wp2_with fail
                  go_region
                  all_goals go_wp2
                  obtain ⟨HB2, HM2, HO2⟩ := turned_facts (x := x) (u := e4) (o' := ⟨o0, o1, e4, o3, o4, era, o6, x⟩) (by rw [h5]) HB1.out HM1.out HO1.out HJ.out HOo.out BO.out
                  have HS2 : Aside0 (ptake l (k + 1) = some (ops.set j ⟨o0, o1, e4, o3, o4, era, o6, x⟩, era)) := HS
                  have HM3 := HM2.out.below (below_drew (Below.refl _ _))
                  have HO3 := Kd.R_drew HO2.out
                  go_roundw
                  case rel => exact ⟨k + 1, x + 1, era, _, bs, ⟨by have := HX.out; omega⟩, by omega, by omega, rfl, rfl, by omega, by omega, HS2, ⟨HO3⟩, ⟨HM3⟩, ⟨below_drew HB2.out⟩⟩
                  case measure => simp [intOf]; omega
              · have h5' : (o5 != era) = true := by simpa using h5
                have hs : pstep l x ⟨2, e1, e2, e3, e4, e5⟩ (ops, era) = none := by simp [pstep, HQ.out, HOo.out, h7, h5]
                have HS := Aside0.mk (no_end HX.out HE.out hlt HP.out hs)
                clear hs
                go_wp2_with (at_lookup; refine at_lookv rfl 110 _ _ _ rfl rfl rfl ((HM.out.below (below_alloc (Below.refl _ _) _)).look_some HI.out.nodup HQ.out HJ.out) ?_)
                go_quiet (fail)
                go_wp2
                go_ret3
                exact no_post (by repeat (first | exact HB.out | apply below_alloc | apply pw_below_drewN)) HS.out
          · have k2' : (e0 == 2) = false := by simpa using k2
            by_cases k3 : e0 = 3
            · subst k3
              cases hp : isCut ⟨3, e1, e2, e3, e4, e5⟩ with
              | false =>
                have hs : pstep l x ⟨3, e1, e2, e3, e4, e5⟩ (ops, era) = none := by simp [pstep, hp]
                have HS := Aside0.mk (no_end HX.out HE.out hlt HP.out hs)
                have hp' : (e1 == 0 && (!e2 && (e3 == 0 && (e4 == 0 && !e5)))) = false := by simpa [isCut] using hp
                clear hs hp hjl
                go_wp2_with (at_lookup; refine at_lookv rfl 110 _ _ _ rfl rfl rfl ((HM.out.below (below_alloc (Below.refl _ _) _)).look_some HI.out.nodup HQ.out HJ.out) ?_)
                go_ret3
                exact no_post (by repeat (first | exact HB.out | apply below_alloc)) HS.out
              | true =>
                have hs : pstep l x ⟨3, e1, e2, e3, e4, e5⟩ (ops, era) = some (ops, era + 1) := by simp [pstep, hp]
                have HS := Aside0.mk (go_end HX.out HE.out HP.out hs)
                have hp' : (e1 == 0 && (!e2 && (e3 == 0 && (e4 == 0 && !e5)))) = true := by simpa [isCut] using hp
                clear hs hp hjl
                go_wp2_with (at_lookup; refine at_lookv rfl 110 _ _ _ rfl rfl rfl ((HM.out.below (below_alloc (Below.refl _ _) _)).look_some HI.out.nodup HQ.out HJ.out) ?_)
                go_roundw
                case rel => exact ⟨k + 1, x + 1, era + 1, ops, bs, ⟨by have := HX.out; omega⟩, by omega, by omega, rfl, rfl, by omega, by omega, HS, ⟨Kd.R_alloc HO.out _⟩, ⟨HM.out.below (below_alloc (Below.refl _ _) _)⟩, ⟨below_alloc HB.out _⟩⟩
                case measure => simp [intOf]; omega
            · have k3' : (e0 == 3) = false := by simpa using k3
              have hs : pstep l x ⟨e0, e1, e2, e3, e4, e5⟩ (ops, era) = none := by simp [pstep, k1, k2, k3]
              have HS := Aside0.mk (no_end HX.out HE.out hlt HP.out hs)
              clear hs hjl
              go_wp2_with (at_lookup; refine at_lookv rfl 110 _ _ _ rfl rfl rfl ((HM.out.below (below_alloc (Below.refl _ _) _)).look_some HI.out.nodup HQ.out HJ.out) ?_)
              go_ret3
              exact no_post (by repeat (first | exact HB.out | apply below_alloc)) HS.out
    · have hk : ptake l l.length = some (ops, era) := by have h1 := HP.out; have h2 := HX.out; rwa [show k = l.length from by omega] at h1
      have HS := Aside0.mk hk
      clear hk
      go_wp2
      go_ret3
      exact ⟨HB.out, by unfold parseP; rw [HS.out]; exact ⟨_, _, bs, rfl, HM.out, HO.out⟩⟩
end Go.Proofs.Ytidghmgaaenihaa.Q
