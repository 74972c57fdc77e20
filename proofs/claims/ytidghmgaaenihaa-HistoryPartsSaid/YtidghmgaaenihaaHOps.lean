/- The Go function history.Ops returns the operations of parseP, or ErrArg. -/
import Derived.Test.YtidghmgaaenihaaHParse
namespace Go.Proofs.Ytidghmgaaenihaa.Q
open Go.RowKit Go.Proofs.YtidghmgaaenihaaW.PrintWords Go.Proofs.YtidghmgaaenihaaW.PrintLast Go.Proofs.YtidghmgaaenihaaW.PrintMore
set_option linter.unusedVariables false
set_option linter.unusedSimpArgs false

def opsP (l : List S39) : List S60 × Int := match parseP l with | none => ([], 1) | some s => (s.1, 0)
def history_Ops.f (l : List S39) : Option (List S60 × Int) := if l.length ≤ 1000000 then some (opsP l) else none

def OpsPost (r1 : List S60) (r2 : Int) (w : World) (e : Ending) (w' : World) : Prop :=
  ∃ v0_ : Value, e = .returned (.tuple #[v0_, .int .i64 r2]) ∧ Kd.R k60 60 w' w.heap.size (fun _ => True) v0_ r1 ∧ Below w.heap.size w w'

theorem ids_at {ops : List S60} {i : Int} (h0 : 0 ≤ i) (h : i < ops.length) : rd (ops.map (·.f0)) i = (opAt ops i.toNat).f0 := by
  have hj : i.toNat < ops.length := by omega
  simp [rd, opAt, List.getD_eq_getElem?_getD, hj]
theorem take_opAt {ops : List S60} {k : Nat} (h : k < ops.length) : ops.take (k + 1) = ops.take k ++ [opAt ops k] := by
  rw [List.take_succ_eq_append_getElem h]; simp [opAt, List.getD_eq_getElem?_getD, h]

set_option maxHeartbeats 2000000 in
set_option maxRecDepth 100000 in
theorem ops_any (A : Option Addr) (c : Nat) (l : List S39) (w : World) (hr : Kd.C k39 w A l.length l) (hc : l.length ≤ c) (hsz : l.length ≤ 1000000) :
    Calls Try.prog 32 #[.slice A l.length c] w (OpsPost (opsP l).1 (opsP l).2 w) := by
  have HR := Aside0.mk hr
  clear hr
  go_enter Try.func32, Try.ntmps32
  go_wp2_with fail
  (with_reducible refine (parse_any A c l _ HR.out hc hsz).mono ?_)
  rintro e w1 ⟨hB, hP⟩
  have HB := Aside0.mk hB
  clear hB
  cases hp : parseP l with
  | none =>
    rw [hp] at hP
    simp only at hP
    subst hP
    have HPP := Aside0.mk hp
    clear hp
    go_wp2
    go_ret2
    simp only [opsP, HPP.out]
    exact ⟨_, rfl, Kd.R_nil _ _ _ _ _, HB.out⟩
  | some s =>
    rw [hp] at hP
    simp only at hP
    obtain ⟨B, v, bs, rfl, hM, hO⟩ := hP
    obtain ⟨ops, era⟩ := s
    have HI := Aside0.mk (ptake_inv l l.length hp)
    have HPP := Aside0.mk hp
    have HM := Aside0.mk hM
    obtain ⟨A1, c1, rfl, hc1, hC⟩ := Kd.R_reads hO
    have HC := Aside0.mk hC
    simp only at hM hO hC hc1
    clear hp hM hO hC
    simp only [List.length_map]
    go_wp2
    go_loopw [7, 20] (fun v7 v20 wr => ∃ (x : Int), 0 ≤ x ∧ x ≤ ops.length ∧ v20 = .int .i64 x ∧ Aside0 (Kd.R k60 60 wr w1.heap.size (fun _ => True) v7 (ops.take x.toNat)) ∧ Aside0 (Below w1.heap.size w1 wr))
      (fun _ v20 _ => ops.length - (intOf v20).toNat)
    case atStart => exact ⟨0, by omega, by omega, rfl, ⟨Kd.R_nil _ _ _ _ _⟩, ⟨Below.refl _ _⟩⟩
    case round =>
      obtain ⟨x, hx0, hx1, rfl, HO, HW⟩ := hrel
      by_cases hlt : x < ops.length
      · obtain ⟨ad, eA, g0⟩ := Kd.at_int (Kd.C_below HC.out HW.out) x hx0 (by rw [List.length_map]; exact hlt)
        subst eA
        rw [ids_at hx0 hlt] at g0
        obtain ⟨id, HID⟩ : ∃ id, Aside0 ((opAt ops x.toNat).f0 = id) := ⟨_, ⟨rfl⟩⟩
        rw [HID.out] at g0
        have HJ := Aside0.mk (at?_is HI.out.nodup (show x.toNat < ops.length by omega) HID.out)
        obtain ⟨b, HJB⟩ : ∃ b, Aside0 (bs[x.toNat]? = some b) := ⟨_, ⟨List.getElem?_eq_getElem (by rw [HM.out.len]; omega)⟩⟩
        have HM1 := Aside0.mk (HM.out.below HW.out)
        have hcb := HM1.out.cells _ _ HJB.out
        obtain ⟨o, HOo⟩ : ∃ o, Aside0 (opAt ops x.toNat = o) := ⟨_, ⟨rfl⟩⟩
        rw [HOo.out] at hcb
        obtain ⟨o0, o1, o2, o3, o4, o5, o6, o7⟩ := o
        have b0 : wr.cell? ⟨b, 0, none⟩ = some (.int .i64 o0) := (blk_cell hcb 0).trans rfl
        have b1 : wr.cell? ⟨b, 1, none⟩ = some (.int .i64 o1) := (blk_cell hcb 1).trans rfl
        have b2 : wr.cell? ⟨b, 2, none⟩ = some (.int .i64 o2) := (blk_cell hcb 2).trans rfl
        have b3 : wr.cell? ⟨b, 3, none⟩ = some (.bool o3) := (blk_cell hcb 3).trans rfl
        have b4 : wr.cell? ⟨b, 4, none⟩ = some (.bool o4) := (blk_cell hcb 4).trans rfl
        have b5 : wr.cell? ⟨b, 5, none⟩ = some (.int .i64 o5) := (blk_cell hcb 5).trans rfl
        have b6 : wr.cell? ⟨b, 6, none⟩ = some (.int .i64 o6) := (blk_cell hcb 6).trans rfl
        have b7 : wr.cell? ⟨b, 7, none⟩ = some (.int .i64 o7) := (blk_cell hcb 7).trans rfl
        have LM := Aside0.mk (show ops.length ≤ 1000000 by have h1 := HI.out.len; simp only at h1; omega)
        have hxb : x < 1000000 := by have := LM.out; omega
        clear hcb
        go_wp2_with (first | (at_lookup; refine at_lookv rfl 110 _ _ _ rfl rfl rfl (HM1.out.look_some HI.out.nodup HJ.out HJB.out) ?_) | (at_builtin; go_loud (refine Kd.R_append k60 (w0 := w1) w1.heap.size rfl (.tmp 24) (.tmp 30) 52 60 (.agg #[(.int .i64 0), (.int .i64 0), (.int .i64 0), (.bool false), (.bool false), (.int .i64 0), (.int .i64 0), (.int .i64 0)]) 56 rfl Try.underlying52 info60 rfl (by decide) (by omega) u7 (ops.take x.toNat) ⟨o0, o1, o2, o3, o4, o5, o6, o7⟩ _ (fun _ => True) (fun _ => False) rfl rfl (k60_mkM _ _ _ ⟨o0, o1, o2, o3, o4, o5, o6, o7⟩) (fun _ hk => hk.elim) (fun _ _ => trivial) HO.out HW.out (below_size HW.out) (by have := LM.out; simp only [List.length_take]; omega) ?_); intro v1 w3 ho hb hg hat; have HO3 := Aside0.mk ho; have HB3 := Aside0.mk hb; clear ho hb hg hat))
        go_roundw
        case rel => exact ⟨x + 1, by omega, by omega, rfl, ⟨by have h1 := HO3.out; rw [show (x + 1).toNat = x.toNat + 1 by omega, take_opAt (by omega), HOo.out]; exact h1⟩, HB3⟩
        case measure => simp [intOf]; omega
      · obtain rfl : x = ops.length := by omega
        go_wp2
        go_ret2
        simp only [opsP, HPP.out]
        exact ⟨_, rfl, Kd.R_lower (by have := HO.out; simpa using this) (below_size HB.out), below_then HB.out (below_size HB.out) HW.out⟩
theorem history_Ops.calls (A0 : Option Addr) (c0 : Nat) (l0 : List S39) (r1 : List S60) (r2 : Int) (w : World) (hr0 : Kd.C k39 w A0 l0.length l0) (hc0 : l0.length ≤ c0) (h : history_Ops.f l0 = some (r1, r2)) :
    Calls Try.prog 32 #[.slice A0 l0.length c0] w fun e w' => ∃ v0_ : Value, e = .returned (.tuple #[v0_, .int .i64 r2]) ∧ Kd.R k60 60 w' w.heap.size (fun _ => True) v0_ r1 ∧ Below w.heap.size w w' := by
  unfold history_Ops.f at h
  split at h
  · rename_i hsz
    have e := Option.some.inj h
    have e1 : (opsP l0).1 = r1 := by rw [e]
    have e2 : (opsP l0).2 = r2 := by rw [e]
    have := ops_any A0 c0 l0 w hr0 hc0 hsz
    rw [e1, e2] at this
    exact this
  · cases h
end Go.Proofs.Ytidghmgaaenihaa.Q
