/- The library's IndexFunc and ContainsFunc at a slice of operations, for any predicate that has a contract. -/
import Derived.Test.YtidghmgaaenihaaHOps
namespace Go.Proofs.Ytidghmgaaenihaa.Q
open Go.RowKit Go.Proofs.YtidghmgaaenihaaW.PrintWords Go.Proofs.YtidghmgaaenihaaW.PrintLast Go.Proofs.YtidghmgaaenihaaW.PrintMore
set_option linter.unusedVariables false
set_option linter.unusedSimpArgs false

section
variable {P : Program} {ops : Array Oper} {Q : Exit → Act → World → Prop}
/-- A call of a function value, in a plain region. -/
theorem goesF_ {rest : List Oper} {oi : Oper} {a : Act} {w : World} (N : Option Tmp) (hd : oi.dst = N) (hg : oi.guard = none) {f : FuncId} {cp : Array Value} (x : Operand) (hx : a.eval x = .func (.func f) #[] cp) {ax : Array Operand} {ts : Array TypeId} (he : ∀ args w, (callFunc f args).run P w = .ok (.enter f args) w) (args : Array Value)
    (hop : oi.op = .call { callee := .value x, args := ax, argTypes := ts }) (hargs : ax.map a.eval = args)
    (h : Calls P f (args ++ cp) w fun e w' => ∃ v, e = .returned v ∧ wpList P ops Q rest (a.put N v) w') : wpList P ops Q (oi :: rest) a w := by
  refine wpList_plain hg fun K hK => ?_
  have hrun : (execOp a.eval oi).run P w = .ok (.enter f (args ++ cp)) w := by
    unfold execOp
    simp [hop, resolve, Deferred.ofValue, invoke, hx, hargs, he]
  unfold Oper.wp
  rw [hrun, Oper.upon_enter]
  refine h.mono fun e w'' hh => ?_
  obtain ⟨v, rfl, hk⟩ := hh
  subst hd
  exact hK _ _ hk
end

def cells60 (o : S60) : Value := .agg #[.int .i64 o.f0, .int .i64 o.f1, .int .i64 o.f2, .bool o.f3, .bool o.f4, .int .i64 o.f5, .int .i64 o.f6, .int .i64 o.f7]
/-- A predicate on operations: the function number f with what it captured, where Inv holds. -/
structure Pred60 (f : FuncId) (capt : Array Value) (p : S60 → Bool) (Inv : World → Prop) : Prop where
  enters : ∀ args w, (callFunc f args).run Try.prog w = .ok (.enter f args) w
  calls : ∀ (o : S60) (W : World), Inv W → Calls Try.prog f (#[.agg #[.int .i64 o.f0, .int .i64 o.f1, .int .i64 o.f2, .bool o.f3, .bool o.f4, .int .i64 o.f5, .int .i64 o.f6, .int .i64 o.f7]] ++ capt) W fun e w' => e = .returned (.bool (p o)) ∧ Below W.heap.size W w'
  stays : ∀ (W W' : World), Inv W → Below W.heap.size W W' → Inv W'
def idxOf (ops : List S60) (p : S60 → Bool) : Int := match ops.findIdx? p with | some i => i | none => -1

theorem rd60_at {l : List S60} {x : Int} (h0 : 0 ≤ x) (h : x < l.length) : rd_T60 l x = l[x.toNat]'(by omega) := by
  simp [rd_T60, List.getD_eq_getElem?_getD, show x.toNat < l.length by omega]
theorem idxOf_hit {l : List S60} {p : S60 → Bool} {x : Int} (h0 : 0 ≤ x) (h : x < l.length) (hn : ∀ o ∈ l.take x.toNat, p o = false) (hp : p (rd_T60 l x) = true) : idxOf l p = x := by
  have : l.findIdx? p = some x.toNat := by
    refine List.findIdx?_eq_some_iff_getElem.2 ⟨by omega, by rw [← rd60_at h0 h]; exact hp, fun j hj => ?_⟩
    rw [hn _ (List.mem_iff_getElem.2 ⟨j, by simp; omega, by simp⟩)]; decide
  simp only [idxOf, this]; omega
theorem idxOf_miss {l : List S60} {p : S60 → Bool} (hn : ∀ o ∈ l, p o = false) : idxOf l p = -1 := by
  have : l.findIdx? p = none := List.findIdx?_eq_none_iff.2 hn
  simp only [idxOf, this]
theorem take_next {l : List S60} {p : S60 → Bool} {x : Int} (h0 : 0 ≤ x) (h : x < l.length) (hn : ∀ o ∈ l.take x.toNat, p o = false) (hp : p (rd_T60 l x) = false) : ∀ o ∈ l.take (x + 1).toNat, p o = false := by
  intro o ho
  rw [show (x + 1).toNat = x.toNat + 1 by omega, List.take_succ_eq_append_getElem (by omega), List.mem_append, List.mem_singleton] at ho
  rcases ho with ho | rfl
  · exact hn o ho
  · rw [← rd60_at h0 h]; exact hp

set_option maxHeartbeats 2000000 in
set_option maxRecDepth 100000 in
theorem index60 (f : FuncId) (cp : Array Value) (p : S60 → Bool) (Inv : World → Prop) (HP : Pred60 f cp p Inv) (A : Option Addr) (c : Nat) (l : List S60) (w : World) (hr : Kd.C k60 w A l.length l) (hc : l.length ≤ c) (hsz : l.length ≤ 1000000) (hi : Inv w) :
    Calls Try.prog 88 #[.slice A l.length c, .func (.func f) #[] cp] w fun e w' => e = .returned (.int .i64 (idxOf l p)) ∧ Below w.heap.size w w' := by
  have HR := Aside0.mk hr
  have HI := Aside0.mk hi
  clear hr hi
  go_enter Try.func88, Try.ntmps88
  go_wp2
  go_loopw [8] (fun v8 wr => ∃ x : Int, 0 ≤ x ∧ x ≤ l.length ∧ v8 = .int .i64 x ∧ Aside0 (∀ o ∈ l.take x.toNat, p o = false) ∧ Aside0 (Below w.heap.size w wr))
    (fun v8 _ => l.length - (intOf v8).toNat)
  case atStart => exact ⟨0, by omega, by omega, rfl, ⟨by simp⟩, ⟨Below.refl _ _⟩⟩
  case round =>
    obtain ⟨x, hx0, hx1, rfl, HN, HB⟩ := hrel
    by_cases hlt : x < l.length
    · obtain ⟨ad, eA, g0, g1, g2, g3, g4, g5, g6, g7⟩ := at_T60 (Kd.C_below HR.out HB.out) x hx0 hlt
      subst eA
      obtain ⟨o, HOo⟩ : ∃ o, Aside0 (rd_T60 l x = o) := ⟨_, ⟨rfl⟩⟩
      rw [HOo.out] at g0 g1 g2 g3 g4 g5 g6 g7
      cases hp : p o with
      | true =>
        have HF := Aside0.mk hp
        clear hp
        go_wp2_with ((with_reducible refine gate_dst (N := 16) rfl ?_); refine goesF_ (some 16) rfl rfl (.tmp 11) rfl HP.enters #[.agg #[.int .i64 o.f0, .int .i64 o.f1, .int .i64 o.f2, .bool o.f3, .bool o.f4, .int .i64 o.f5, .int .i64 o.f6, .int .i64 o.f7]] rfl (by (try simp only [List.map_toArray, List.map_cons, List.map_nil]); first | done | rfl) ?_; (with_reducible refine (HP.calls o _ (HP.stays _ _ HI.out HB.out)).mono ?_); rintro e w1 ⟨he, hb⟩; rw [HF.out] at he; subst he; refine ⟨_, rfl, ?_⟩)
        go_ret
        exact ⟨by rw [idxOf_hit hx0 hlt HN.out (by rw [HOo.out]; exact HF.out)]; rfl, below_step HB.out hb⟩
      | false =>
        have HF := Aside0.mk hp
        clear hp
        have hxb : x < 1000000 := by omega
        go_wp2_with ((with_reducible refine gate_dst (N := 16) rfl ?_); refine goesF_ (some 16) rfl rfl (.tmp 11) rfl HP.enters #[.agg #[.int .i64 o.f0, .int .i64 o.f1, .int .i64 o.f2, .bool o.f3, .bool o.f4, .int .i64 o.f5, .int .i64 o.f6, .int .i64 o.f7]] rfl (by (try simp only [List.map_toArray, List.map_cons, List.map_nil]); first | done | rfl) ?_; (with_reducible refine (HP.calls o _ (HP.stays _ _ HI.out HB.out)).mono ?_); rintro e w1 ⟨he, hb⟩; rw [HF.out] at he; subst he; refine ⟨_, rfl, ?_⟩)
        go_roundw
        case rel => exact ⟨x + 1, by omega, by omega, rfl, ⟨take_next hx0 hlt HN.out (by rw [HOo.out]; exact HF.out)⟩, ⟨below_step HB.out hb⟩⟩
        case measure => simp [intOf]; omega
    · obtain rfl : x = l.length := by omega
      go_wp2
      go_ret
      exact ⟨by rw [idxOf_miss (by have := HN.out; simpa using this)]; rfl, HB.out⟩

def anyOf (ops : List S60) (p : S60 → Bool) : Bool := ops.any p
theorem idx_any (l : List S60) (p : S60 → Bool) : decide (0 ≤ idxOf l p) = l.any p := by
  unfold idxOf
  cases h : l.findIdx? p with
  | none =>
    have h1 := List.findIdx?_eq_none_iff.1 h
    have h2 : l.any p = false := by rw [List.any_eq_false]; intro o ho; simp [h1 o ho]
    rw [h2]; rfl
  | some i =>
    obtain ⟨hi, h1, _⟩ := List.findIdx?_eq_some_iff_getElem.1 h
    have : l.any p = true := List.any_eq_true.2 ⟨_, List.getElem_mem hi, h1⟩
    simp [this]
set_option maxHeartbeats 2000000 in
set_option maxRecDepth 100000 in
theorem contains60 (f : FuncId) (cp : Array Value) (p : S60 → Bool) (Inv : World → Prop) (HP : Pred60 f cp p Inv) (A : Option Addr) (c : Nat) (l : List S60) (w : World) (hr : Kd.C k60 w A l.length l) (hc : l.length ≤ c) (hsz : l.length ≤ 1000000) (hi : Inv w) :
    Calls Try.prog 114 #[.slice A l.length c, .func (.func f) #[] cp] w fun e w' => e = .returned (.bool (l.any p)) ∧ Below w.heap.size w w' := by
  have HR := Aside0.mk hr
  have HI := Aside0.mk hi
  clear hr hi
  go_enter Try.func114, Try.ntmps114
  go_wp2_with fail
  (with_reducible refine (index60 f cp p Inv HP A c l _ HR.out hc hsz HI.out).mono ?_)
  rintro e w1 ⟨rfl, hb⟩
  have hx := idx_any l p
  obtain ⟨i, hi⟩ : ∃ i, idxOf l p = i := ⟨_, rfl⟩
  rw [hi] at hx ⊢
  clear hi
  go_wp2
  go_ret
  exact ⟨by rw [← hx]; rfl, hb⟩
end Go.Proofs.Ytidghmgaaenihaa.Q
