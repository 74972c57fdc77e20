/- The Go function durable.begin lays the trace of a traceable history: the walk. -/
import Derived.Test.YtidghmgaaenihaaHBegin
namespace Go.Proofs.Ytidghmgaaenihaa.Q
open Go.RowKit Go.Proofs.YtidghmgaaenihaaW.PrintWords Go.Proofs.YtidghmgaaenihaaW.PrintLast Go.Proofs.YtidghmgaaenihaaW.PrintMore
set_option linter.unusedVariables false
set_option linter.unusedSimpArgs false

section
variable {P : Program} {w : World} {ops : Array Oper} {rest : List Oper} {o : Oper} {a : Act} {Q : Exit → Act → World → Prop}
/-- 'm[k] = v', what comes of it known. -/
theorem at_updv (hgd : o.guard = none) (T : TypeId) (m x v : Operand) (hop : o.op = Op.mapUpdate T m x v) {mv xv uv : Value} (hm : a.eval m = mv) (hx : a.eval x = xv) (hv : a.eval v = uv) {w' : World} (hr : (Instr.mapUpdate T mv xv uv).run P w = .ok () w')
    (h : ∀ w2, w2 = w' → wpList P ops Q rest (a.put o.dst undef) w2) : wpList P ops Q (o :: rest) a w := by
  refine wpList_plain hgd fun K' hK' => ?_
  unfold Oper.wp
  simp only [execOp, hop, hm, hx, hv]
  simp [hr, Result.andThen]
  exact hK' _ _ (h _ rfl)
end
def BeginYes (ops : List S60) (e : Ending) (w' : World) : Prop :=
  ∃ g A c B1 B2, e = .returned (.tuple #[.pointer (some ⟨g, 0, none⟩), .bool true]) ∧ Trace w' g A c ops B1 B2 (survP ops ops.length)
def BeginPost (l : List S39) (w : World) (e : Ending) (w' : World) : Prop :=
  Below w.heap.size w w' ∧ match beginP l with
    | none => e = .returned (.tuple #[.pointer none, .bool false])
    | some ops => BeginYes ops e w'

theorem no_begin {l : List S39} {w W : World} (hb : Below w.heap.size w W) (h : beginP l = none) : BeginPost l w (.returned (.tuple #[.pointer none, .bool false])) W := ⟨hb, by rw [h]⟩

set_option maxHeartbeats 4000000 in
set_option maxRecDepth 100000 in
theorem begin_any (A : Option Addr) (c : Nat) (l : List S39) (w : World) (hr : Kd.C k39 w A l.length l) (hc : l.length ≤ c) (hsz : l.length ≤ 1000000) :
    Calls Try.prog 53 #[.slice A l.length c] w (BeginPost l w) := by
  have HR := Aside0.mk hr
  clear hr
  have hmm := @run_makeMap Try.prog
  go_enter Try.func53, Try.ntmps53
  go_wp2_with fail
  (with_reducible refine (ops_any A c l _ HR.out hc hsz).mono ?_)
  rintro e w1 ⟨v0, rfl, hR, hB⟩
  have HB1 := Aside0.mk hB
  clear hB
  cases hp : parseP l with
  | none =>
    have HPP := Aside0.mk (show beginP l = none by rw [beginP, hp])
    have h2 : (opsP l).2 = 1 := by rw [opsP, hp]
    rw [h2]
    clear hp h2 hR
    go_wp2
    go_ret2
    exact no_begin HB1.out HPP.out
  | some s =>
    obtain ⟨ops, era⟩ := s
    have hI := ptake_inv l l.length hp
    have HND := Aside0.mk hI.nodup
    have hlen : ops.length ≤ 1000000 := by have := hI.len; simp only at this; omega
    have h2 : (opsP l).2 = 0 := by rw [opsP, hp]
    have h1 : (opsP l).1 = ops := by rw [opsP, hp]
    rw [h2]
    rw [h1] at hR
    have HPP := Aside0.mk (show beginP l = if okW ops ops.length = true then some ops else none by rw [beginP, hp])
    obtain ⟨A1, c1, rfl, hc1, hC⟩ := Kd.R_reads hR
    have HC := Aside0.mk hC
    clear hp h1 h2 hR hC hI
    have hww : w.heap.size ≤ w1.heap.size := below_size HB1.out
    go_wp2
    go_loopw [26] (fun v26 wr => ∃ x : Int, 0 ≤ x ∧ x ≤ ops.length ∧ v26 = .int .i64 x ∧ Aside0 (okW ops x.toNat = true) ∧ Aside0 (TraceK wr (w1.heap.size + 1 + 1) A1 c1 ops w1.heap.size (w1.heap.size + 1) (wents A1 ops x.toNat) []) ∧ Aside0 (Below w.heap.size w wr))
      (fun v26 _ => ops.length - (intOf v26).toNat)
    case atStart =>
      refine ⟨0, by omega, by omega, rfl, ⟨rfl⟩, ⟨⟨Kd.C_below HC.out (by repeat (first | exact Below.refl _ _ | apply below_alloc)), hc1, hlen, ?_, ?_, ?_, by simp, by omega⟩⟩, ⟨by repeat (first | exact HB1.out | apply below_alloc)⟩⟩
      · exact blk_new2 w1 _ _ _
      · exact blk_old (blk_old (blk_new w1 _) (below_alloc (Below.refl _ _) _)) (below_alloc (Below.refl _ _) _)
      · exact blk_old (blk_new1 w1 _ _) (below_alloc (Below.refl _ _) _)
    case round =>
      obtain ⟨x, hx0, hx1, rfl, HOK, HK, HB⟩ := hrel
      by_cases hlt : x < ops.length
      · have hxb : x < 1000000 := by omega
        obtain ⟨ad, eA, s0, s1, s2, s3, s4, s5, s6, s7⟩ := at_T60 HK.out.row x hx0 hlt
        subst eA
        have hxk : x.toNat < ops.length := by omega
        have hrd : rd_T60 ops x = opAt ops x.toNat := by rw [rd60_at hx0 hlt, opAt_get hxk]
        obtain ⟨o, HOo⟩ : ∃ o, Aside0 (opAt ops x.toNat = o) := ⟨_, ⟨rfl⟩⟩
        rw [hrd, HOo.out] at s1 s2 s3
        obtain ⟨o0, o1, o2, o3, o4, o5, o6, o7⟩ := o
        simp only at s1 s2 s3
        have hbl : (ad.add (x.toNat * 8)).block < wr.heap.size := World.block_lt_of_cell? _ _ s0
        clear s0 s4 s5 s6 s7 hrd
        cases o3 with
        | false =>
          have hok : okW ops (x.toNat + 1) = true := by rw [okW, HOK.out, okAt, HOo.out]; rfl
          have hwe : wents (some ad) ops (x.toNat + 1) = wents (some ad) ops x.toNat := by rw [wents, HOo.out]; rfl
          have HOK2 := Aside0.mk hok
          have HWE := Aside0.mk hwe
          clear hok hwe
          go_wp2
          go_roundw
          case rel => exact ⟨x + 1, by omega, by omega, rfl, ⟨by rw [show (x + 1).toNat = x.toNat + 1 by omega]; exact HOK2.out⟩, ⟨by rw [show (x + 1).toNat = x.toNat + 1 by omega, HWE.out]; exact HK.out⟩, HB⟩
          case measure => simp [intOf]; omega
        | true =>
          go_wp2_with fail
          go_region
          go_wp2_with fail
          have hS := Aside0.mk (show Below wr.heap.size wr (wr.alloc (.cells #[.int .i64 o1, .int .i64 o2] 145)).drew from below_drew (below_alloc (Below.refl _ _) _))
          have BKey := Aside0.mk (show (wr.alloc (.cells #[.int .i64 o1, .int .i64 o2] 145)).drew.heap[wr.heap.size]? = some (.cells #[.int .i64 o1, .int .i64 o2] 145 (0, 0)) from blk_old (blk_new wr _) (below_drew (Below.refl _ _)))
          generalize (wr.alloc (.cells #[.int .i64 o1, .int .i64 o2] 145)).drew = w2 at hS BKey ⊢
          have HB2 := Aside0.mk (below_step HB.out hS.out)
          have HK2 := Aside0.mk (HK.out.below hS.out)
          have q2 : w2.cell? ⟨(ad.add (x.toNat * 8)).block, (ad.add (x.toNat * 8)).off + 2, none⟩ = some (.int .i64 o2) := (hS.out.cell (p := ⟨(ad.add (x.toNat * 8)).block, (ad.add (x.toNat * 8)).off + 2, none⟩) hbl).trans s2
          have k0 : w2.cell? ⟨wr.heap.size, 0, none⟩ = some (.int .i64 o1) := (blk_cell BKey.out 0).trans rfl
          have k1 : w2.cell? ⟨wr.heap.size, 1, none⟩ = some (.int .i64 o2) := (blk_cell BKey.out 1).trans rfl
          have g1 : w2.cell? ⟨w1.heap.size + 1 + 1, 1, none⟩ = some (.map (some w1.heap.size)) := (blk_cell HK2.out.blk 1).trans rfl
          clear s1 s2 s3
          by_cases hv : 1 ≤ o2
          · have hv' : decide (o2 < 1) = false := by simp; omega
            obtain ⟨p, hp⟩ : ∃ p, srcP (some ad) (ops.take x.toNat) o1 o2 = p := ⟨_, rfl⟩
            have hl : ∀ n, (Instr.lookup 87 (.map (some w1.heap.size)) (.agg #[.int .i64 o1, .int .i64 o2]) false).run Try.prog (w2.drewN n) = .ok (.pointer p) (w2.drewN n) :=
              fun n => by rw [← hp]; exact TraceK.look (HK2.out.below (pw_below_drewN (Below.refl _ _) n)) (by omega) o1 o2
            cases hs : srcIx (ops.take x.toNat) o1 o2 with
            | some i =>
              have hok : okAt ops x.toNat = false := by rw [okAt, HOo.out]; simp [hs]
              have HN := Aside0.mk (show beginP l = none by rw [HPP.out, okW_bad hxk hok]; rfl)
              have hp2 : p = some (ad.add (i * 8)) := by rw [← hp]; simp [srcP, hs, ptrAt]
              subst hp2
              clear hp hs hok
              go_quiet (fail)
              go_wp2
              go_ret2
              exact no_begin (by repeat (first | exact HB2.out | apply pw_below_drewN)) HN.out
            | none =>
              have hok : okW ops (x.toNat + 1) = true := by rw [okW, HOK.out, okAt, HOo.out]; simp [hs, hv]
              have hwe : wents (some ad) ops (x.toNat + 1) = wents (some ad) ops x.toNat ++ [((o1, o2), .pointer (ptrAt (some ad) x.toNat))] := by rw [wents, HOo.out]; rfl
              have HOK2 := Aside0.mk hok
              have HWE := Aside0.mk hwe
              have hp2 : p = none := by rw [← hp]; exact srcP_none hs
              have HSN := Aside0.mk (show look2 (wents (some ad) ops x.toNat) o1 o2 = none by rw [look_wents _ _ _ _ _ (by omega), hs]; rfl)
              subst hp2
              clear hp hs hok hwe
              go_quiet (fail)
              clear hl q2
              go_wp2_with fail
              refine still_tail 6 (by kernel_rfl) (by kernel_rfl) ?_
              simp only [List.take_succ_cons, List.take_zero, List.drop_succ_cons, List.drop_zero]
              repeat still_step
              refine wpStill_nil ?_
              go_wp2_with (at_mapUpdate; refine at_updv rfl 87 _ _ _ rfl rfl rfl rfl (store2_run _ (HK2.out.below (by repeat (first | exact Below.refl _ _ | apply below_drew | apply pw_below_drewN))).writes o1 o2 _ HSN.out) ?_; intro w3 hw3; have HW3 := Aside0.mk hw3; clear hw3)
              have HK3 := Aside0.mk (show TraceK w3 (w1.heap.size + 1 + 1) (some ad) c1 ops w1.heap.size (w1.heap.size + 1) (wents (some ad) ops (x.toNat + 1)) [] by rw [HW3.out, HWE.out]; exact TraceK.write (HK2.out.below (by repeat (first | exact Below.refl _ _ | apply below_drew | apply pw_below_drewN))) _)
              have HB3 := Aside0.mk (show Below w.heap.size w w3 by rw [HW3.out]; exact below_setBlock (by repeat (first | exact HB2.out | apply below_drew | apply pw_below_drewN)) hww (Array.getElem?_eq_some_iff.1 (HK2.out.below (by repeat (first | exact Below.refl _ _ | apply below_drew | apply pw_below_drewN))).writes).1)
              go_roundw
              case rel => exact ⟨x + 1, by omega, by omega, rfl, ⟨by rw [show (x + 1).toNat = x.toNat + 1 by omega]; exact HOK2.out⟩, ⟨by rw [show (x + 1).toNat = x.toNat + 1 by omega]; exact HK3.out⟩, HB3⟩
              case measure => simp [intOf]; omega
          · have hv' : decide (o2 < 1) = true := by simp; omega
            have hok : okAt ops x.toNat = false := by rw [okAt, HOo.out]; simp [hv]
            have HN := Aside0.mk (show beginP l = none by rw [HPP.out, okW_bad hxk hok]; rfl)
            clear hok
            go_quiet (fail)
            go_wp2
            go_ret2
            exact no_begin (by repeat (first | exact HB2.out | apply pw_below_drewN)) HN.out
      · obtain rfl : x = ops.length := by omega
        rw [show ((ops.length : Int)).toNat = ops.length by omega] at HOK HK
        have HPP2 := Aside0.mk (show beginP l = some ops by rw [HPP.out, HOK.out]; rfl)
        go_wp2
        go_loopw [69] (fun v69 wr2 => ∃ x : Int, 0 ≤ x ∧ x ≤ ops.length ∧ v69 = .int .i64 x ∧ Aside0 (TraceK wr2 (w1.heap.size + 1 + 1) A1 c1 ops w1.heap.size (w1.heap.size + 1) (wents A1 ops ops.length) (survP ops x.toNat)) ∧ Aside0 (Below w.heap.size w wr2))
          (fun v69 _ => ops.length - (intOf v69).toNat)
        case atStart => exact ⟨0, by omega, by omega, rfl, HK, HB⟩
        case round =>
          obtain ⟨x, hx0, hx1, rfl, HK, HB⟩ := hrel
          by_cases hlt : x < ops.length
          · have hxb : x < 1000000 := by omega
            have hxk : x.toNat < ops.length := by omega
            obtain ⟨ad, eA, s0, s1, s2, s3, s4, s5, s6, s7⟩ := at_T60 HK.out.row x hx0 hlt
            have hrd : rd_T60 ops x = opAt ops x.toNat := by rw [rd60_at hx0 hlt, opAt_get hxk]
            obtain ⟨o, HOo⟩ : ∃ o, Aside0 (opAt ops x.toNat = o) := ⟨_, ⟨rfl⟩⟩
            rw [hrd, HOo.out] at s0 s1 s2 s3 s4 s5 s6 s7
            subst eA
            have hnew := survP_new HND.out hxk
            rw [HOo.out] at hnew
            have HNEW := Aside0.mk hnew
            have HCE := Aside0.mk (fun (W : World) (sv : List (Int × Bool)) (h : Trace W (w1.heap.size + 1 + 1) (some ad) c1 ops w1.heap.size (w1.heap.size + 1) sv) => certain_any o W h)
            obtain ⟨cb, hcb⟩ : ∃ cb, certainB ops o = cb := ⟨_, rfl⟩
            rw [hcb] at HCE
            have HCB := Aside0.mk hcb
            clear hrd hnew hcb
            obtain ⟨o0, o1, o2, o3, o4, o5, o6, o7⟩ := o
            simp only at s0 s1 s2 s3 s4 s5 s6 s7 HCE HNEW
            cases o3 with
            | false =>
              have HSU := Aside0.mk (show survP ops (x.toNat + 1) = survP ops x.toNat by rw [survP, HOo.out]; rfl)
              go_wp2
              go_roundw
              case rel => exact ⟨x + 1, by omega, by omega, rfl, ⟨by rw [show (x + 1).toNat = x.toNat + 1 by omega, HSU.out]; exact HK.out.below (below_alloc (Below.refl _ _) _)⟩, ⟨below_alloc HB.out _⟩⟩
              case measure => simp [intOf]; omega
            | true =>
              have HSU := Aside0.mk (show survP ops (x.toNat + 1) = survP ops x.toNat ++ [(o0, cb)] by rw [survP, HOo.out, HCB.out]; rfl)
              have HKA := Aside0.mk (HK.out.below (below_alloc (Below.refl _ _) (.cells #[.int .i64 o0, .int .i64 o1, .int .i64 o2, .bool true, .bool o4, .int .i64 o5, .int .i64 o6, .int .i64 o7] 60)))
              have g2 : wr.cell? ⟨w1.heap.size + 1 + 1, 2, none⟩ = some (.map (some (w1.heap.size + 1))) := (blk_cell HK.out.blk 2).trans rfl
              have hgl : w1.heap.size + 1 + 1 < wr.heap.size := (Array.getElem?_eq_some_iff.1 HK.out.blk).1
              go_wp2_with fail
              clear s0 s1 s2 s3 s4 s5 s6 s7
              go_region_held3 (fun W' => W'.cell? ⟨w1.heap.size + 1 + 1, 2, none⟩ = some (.map (some (w1.heap.size + 1))) ∧ W'.cell? ⟨wr.heap.size, 0, none⟩ = some (.int .i64 o0) ∧ W'.cell? ⟨wr.heap.size, 1, none⟩ = some (.int .i64 o1) ∧ W'.cell? ⟨wr.heap.size, 2, none⟩ = some (.int .i64 o2) ∧ W'.cell? ⟨wr.heap.size, 3, none⟩ = some (.bool true) ∧ W'.cell? ⟨wr.heap.size, 4, none⟩ = some (.bool o4) ∧ W'.cell? ⟨wr.heap.size, 5, none⟩ = some (.int .i64 o5) ∧ W'.cell? ⟨wr.heap.size, 6, none⟩ = some (.int .i64 o6) ∧ W'.cell? ⟨wr.heap.size, 7, none⟩ = some (.int .i64 o7)) (first | go_keep | exact ⟨cell_setBlock v8 HK3.out.surv, cell_setBlock v0 HK3.out.surv, cell_setBlock v1 HK3.out.surv, cell_setBlock v2 HK3.out.surv, cell_setBlock v3 HK3.out.surv, cell_setBlock v4 HK3.out.surv, cell_setBlock v5 HK3.out.surv, cell_setBlock v6 HK3.out.surv, cell_setBlock v7 HK3.out.surv⟩) ((go_at_call 86; go_loud (refine (HCE.out _ _ (HK.out.trace.below (by repeat (first | exact Below.refl _ _ | apply below_drew | apply below_alloc)))).mono ?_); rintro e w3 ⟨rfl, hb3⟩; have HW3 := Aside0.mk (below_step (below_drew (below_alloc (Below.refl wr.heap.size wr) (.cells #[.int .i64 o0, .int .i64 o1, .int .i64 o2, .bool true, .bool o4, .int .i64 o5, .int .i64 o6, .int .i64 o7] 60))) hb3); have BK := Aside0.mk (blk_old (blk_old (blk_new wr (.cells #[.int .i64 o0, .int .i64 o1, .int .i64 o2, .bool true, .bool o4, .int .i64 o5, .int .i64 o6, .int .i64 o7] 60)) (below_drew (Below.refl _ _))) hb3); clear hb3; have HK3 := Aside0.mk (HK.out.below HW3.out); have v8 : w3.cell? ⟨w1.heap.size + 1 + 1, 2, none⟩ = some (.map (some (w1.heap.size + 1))) := (blk_cell HK3.out.blk 2).trans rfl; have v0 : w3.cell? ⟨wr.heap.size, 0, none⟩ = some (.int .i64 o0) := (blk_cell BK.out 0).trans rfl; have v1 : w3.cell? ⟨wr.heap.size, 1, none⟩ = some (.int .i64 o1) := (blk_cell BK.out 1).trans rfl; have v2 : w3.cell? ⟨wr.heap.size, 2, none⟩ = some (.int .i64 o2) := (blk_cell BK.out 2).trans rfl; have v3 : w3.cell? ⟨wr.heap.size, 3, none⟩ = some (.bool true) := (blk_cell BK.out 3).trans rfl; have v4 : w3.cell? ⟨wr.heap.size, 4, none⟩ = some (.bool o4) := (blk_cell BK.out 4).trans rfl; have v5 : w3.cell? ⟨wr.heap.size, 5, none⟩ = some (.int .i64 o5) := (blk_cell BK.out 5).trans rfl; have v6 : w3.cell? ⟨wr.heap.size, 6, none⟩ = some (.int .i64 o6) := (blk_cell BK.out 6).trans rfl; have v7 : w3.cell? ⟨wr.heap.size, 7, none⟩ = some (.int .i64 o7) := (blk_cell BK.out 7).trans rfl; have hu := HK3.out.store_surv o0 cb HNEW.out))
              have HK4 := Aside0.mk (HK3.out.survive (o0, cb) HNEW.out)
              have HB4 := Aside0.mk (below_setBlock (o := .map (entsB (survP ops x.toNat ++ [(o0, cb)])).toArray ((survP ops x.toNat).length + 1)) (below_step HB.out HW3.out) (show w.heap.size ≤ w1.heap.size + 1 by omega) (Array.getElem?_eq_some_iff.1 HK3.out.surv).1)
              clear hu v0 v1 v2 v3 v4 v5 v6 v7 v8
              go_wp2
              go_roundw
              case rel => exact ⟨x + 1, by omega, by omega, rfl, ⟨by rw [show (x + 1).toNat = x.toNat + 1 by omega, HSU.out]; exact HK4.out⟩, HB4⟩
              case measure => simp [intOf]; omega
          · obtain rfl : x = ops.length := by omega
            rw [show ((ops.length : Int)).toNat = ops.length by omega] at HK
            go_wp2
            go_ret2
            exact ⟨HB.out, by rw [HPP2.out]; exact ⟨_, _, _, _, _, rfl, HK.out.trace⟩⟩
end Go.Proofs.Ytidghmgaaenihaa.Q
