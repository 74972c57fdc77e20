/- The Go methods final and judge of a trace. -/
import Derived.Test.YtidghmgaaenihaaHCert
namespace Go.Proofs.Ytidghmgaaenihaa.Q
open Go.RowKit Go.Proofs.YtidghmgaaenihaaW.PrintWords Go.Proofs.YtidghmgaaenihaaW.PrintLast Go.Proofs.YtidghmgaaenihaaW.PrintMore
set_option linter.unusedVariables false
set_option linter.unusedSimpArgs false

def finalB (sv : List (Int × Bool)) (w r : S60) : Bool := decide (0 ≤ w.f7) && (decide (w.f7 < r.f6) && (w.f5 == r.f5 || lookB sv w.f0))
set_option maxHeartbeats 2000000 in
set_option maxRecDepth 100000 in
theorem final_any (wo r : S60) (w : World) {g : Nat} {A : Option Addr} {c : Nat} {ops : List S60} {B1 B2 : Nat} {sv : List (Int × Bool)} (h : Trace w g A c ops B1 B2 sv) :
    Calls Try.prog 91 #[.pointer (some ⟨g, 0, none⟩), .agg #[.int .i64 wo.f0, .int .i64 wo.f1, .int .i64 wo.f2, .bool wo.f3, .bool wo.f4, .int .i64 wo.f5, .int .i64 wo.f6, .int .i64 wo.f7], .agg #[.int .i64 r.f0, .int .i64 r.f1, .int .i64 r.f2, .bool r.f3, .bool r.f4, .int .i64 r.f5, .int .i64 r.f6, .int .i64 r.f7]] w fun e w' => e = .returned (.bool (finalB sv wo r)) ∧ Below w.heap.size w w' := by
  obtain ⟨b, hb⟩ : ∃ b, finalB sv wo r = b := ⟨_, rfl⟩
  rw [hb]
  unfold finalB at hb
  have hg : g < w.heap.size := (Array.getElem?_eq_some_iff.1 h.blk).1
  have c2 : w.cell? ⟨g, 2, none⟩ = some (.map (some B2)) := (blk_cell h.blk 2).trans rfl
  have HT := Aside0.mk h
  clear h
  obtain ⟨a0, a1, a2, a3, a4, a5, a6, a7⟩ := wo
  obtain ⟨r0, r1, r2, r3, r4, r5, r6, r7⟩ := r
  simp only at hb ⊢
  cases h7 : decide (0 ≤ a7) with
  | false =>
    rw [h7, Bool.false_and] at hb
    subst hb
    go_enter Try.func91, Try.ntmps91
    go_wp2
    go_quiet (fail)
    go_wp2
    go_ret
    exact ⟨rfl, by repeat (first | exact Below.refl _ _ | apply below_alloc | apply pw_below_drewN)⟩
  | true =>
    rw [h7, Bool.true_and] at hb
    cases h6 : decide (a7 < r6) with
    | false =>
      rw [h6, Bool.false_and] at hb
      subst hb
      go_enter Try.func91, Try.ntmps91
      go_wp2
      go_quiet (fail)
      go_wp2
      go_ret
      exact ⟨rfl, by repeat (first | exact Below.refl _ _ | apply below_alloc | apply pw_below_drewN)⟩
    | true =>
      rw [h6, Bool.true_and] at hb
      cases h5 : (a5 == r5) with
      | true =>
        rw [h5, Bool.true_or] at hb
        subst hb
        go_enter Try.func91, Try.ntmps91
        go_wp2
        go_quiet (fail)
        go_wp2
        go_ret
        exact ⟨rfl, by repeat (first | exact Below.refl _ _ | apply below_alloc | apply pw_below_drewN)⟩
      | false =>
        rw [h5, Bool.false_or] at hb
        have hl : ∀ n, (Instr.lookup 88 (.map (some B2)) (.int .i64 a0) false).run Try.prog (((w.alloc (.cells #[.int .i64 a0, .int .i64 a1, .int .i64 a2, .bool a3, .bool a4, .int .i64 a5, .int .i64 a6, .int .i64 a7] 60)).alloc (.cells #[.int .i64 r0, .int .i64 r1, .int .i64 r2, .bool r3, .bool r4, .int .i64 r5, .int .i64 r6, .int .i64 r7] 60)).drewN n) = .ok (.bool b) (((w.alloc (.cells #[.int .i64 a0, .int .i64 a1, .int .i64 a2, .bool a3, .bool a4, .int .i64 a5, .int .i64 a6, .int .i64 a7] 60)).alloc (.cells #[.int .i64 r0, .int .i64 r1, .int .i64 r2, .bool r3, .bool r4, .int .i64 r5, .int .i64 r6, .int .i64 r7] 60)).drewN n) :=
          fun n => by rw [← hb]; exact lookB_run _ (HT.out.below (pw_below_drewN (below_alloc (below_alloc (Below.refl _ _) _) _) n)).surv HT.out.ids a0
        clear hb
        go_enter Try.func91, Try.ntmps91
        go_wp2
        go_quiet (fail)
        go_wp2
        go_ret
        exact ⟨rfl, by repeat (first | exact Below.refl _ _ | apply below_alloc | apply pw_below_drewN)⟩

def hidesB (ops : List S60) (si : Option Nat) (o : S60) : Bool := match si with | none => true | some i => precB (opAt ops i) o || decide ((opAt ops i).f5 < o.f5)
def staleB (ops : List S60) (sv : List (Int × Bool)) (r : S60) (si : Option Nat) (o : S60) : Bool := o.f3 && (o.f1 == r.f1 && (hidesB ops si o && finalB sv o r))
set_option maxHeartbeats 4000000 in
set_option maxRecDepth 100000 in
theorem judge1_calls (r o : S60) (W : World) (gs gr gt g : Nat) {A : Option Addr} {c : Nat} {ops : List S60} {B1 B2 : Nat} {sv : List (Int × Bool)} (si : Option Nat) (hsi : ∀ i, si = some i → i < ops.length)
    (hs : W.heap[gs]? = some (.cells #[.pointer (si.bind (ptrAt A))] 113 (0, 0))) (hr : W.heap[gr]? = some (.cells #[.int .i64 r.f0, .int .i64 r.f1, .int .i64 r.f2, .bool r.f3, .bool r.f4, .int .i64 r.f5, .int .i64 r.f6, .int .i64 r.f7] 60 (0, 0)))
    (ht : W.heap[gt]? = some (.cells #[.pointer (some ⟨g, 0, none⟩)] 84 (0, 0))) (hT : Trace W g A c ops B1 B2 sv) :
    Calls Try.prog 89 #[.agg #[.int .i64 o.f0, .int .i64 o.f1, .int .i64 o.f2, .bool o.f3, .bool o.f4, .int .i64 o.f5, .int .i64 o.f6, .int .i64 o.f7], .pointer (some ⟨gs, 0, none⟩), .pointer (some ⟨gr, 0, none⟩), .pointer (some ⟨gt, 0, none⟩)] W fun e w' => e = .returned (.bool (staleB ops sv r si o)) ∧ Below W.heap.size W w' := by
  have HP := Aside0.mk (fun i => prec_calls (opAt ops i) o)
  obtain ⟨b, hb⟩ : ∃ b, staleB ops sv r si o = b := ⟨_, rfl⟩
  rw [hb]
  unfold staleB at hb
  have HF := Aside0.mk (fun (w : World) (h : Trace w g A c ops B1 B2 sv) => final_any o r w h)
  obtain ⟨fb, hfb⟩ : ∃ fb, finalB sv o r = fb := ⟨_, rfl⟩
  rw [hfb] at hb HF
  clear hfb
  have HT := Aside0.mk hT
  have HR := Aside0.mk hr
  have HS := Aside0.mk hs
  have HTT := Aside0.mk ht
  have HSI := Aside0.mk hsi
  clear hT hr hs ht hsi
  obtain ⟨r0, r1, r2, r3, r4, r5, r6, r7⟩ := r
  obtain ⟨o0, o1, o2, o3, o4, o5, o6, o7⟩ := o
  simp only at HR HP HF hb ⊢
  have hg1 : gs < W.heap.size := (Array.getElem?_eq_some_iff.1 HS.out).1
  cases si with
  | none =>
    simp only [hidesB] at hb
    have s0 : W.cell? ⟨gs, 0, none⟩ = some (.pointer none) := (blk_cell HS.out 0).trans rfl
    go_enter Try.func89, Try.ntmps89
    go_wp2
    refine region_after (by kernel_rfl) (by kernel_rfl) ?_
    have q0 := after_cell (w := W.alloc (.cells #[.int .i64 o0, .int .i64 o1, .int .i64 o2, .bool o3, .bool o4, .int .i64 o5, .int .i64 o6, .int .i64 o7] 60)) (a := ⟨gs, 0, none⟩) (v := .pointer none) (by rw [World.cell?_alloc_past _ _ _ hg1]; exact s0)
    repeat (quiet_step (fail))
    clear q0
    refine wpQuiet_nil ?_
    rintro _ ⟨u, rfl⟩
    obtain ⟨W1, hu⟩ := u
    simp only
    have HW1 := Aside0.mk (below_step (below_alloc (Below.refl W.heap.size W) (.cells #[.int .i64 o0, .int .i64 o1, .int .i64 o2, .bool o3, .bool o4, .int .i64 o5, .int .i64 o6, .int .i64 o7] 60)) hu)
    have BK := Aside0.mk (blk_old (blk_new W (.cells #[.int .i64 o0, .int .i64 o1, .int .i64 o2, .bool o3, .bool o4, .int .i64 o5, .int .i64 o6, .int .i64 o7] 60)) hu)
    have BR := Aside0.mk (blk_old HR.out HW1.out)
    have t0 : W1.cell? ⟨gt, 0, none⟩ = some (.pointer (some ⟨g, 0, none⟩)) := (blk_cell (blk_old HTT.out HW1.out) 0).trans rfl
    have k0 : W1.cell? ⟨W.heap.size, 0, none⟩ = some (.int .i64 o0) := (blk_cell BK.out 0).trans rfl
    have k1 : W1.cell? ⟨W.heap.size, 1, none⟩ = some (.int .i64 o1) := (blk_cell BK.out 1).trans rfl
    have k2 : W1.cell? ⟨W.heap.size, 2, none⟩ = some (.int .i64 o2) := (blk_cell BK.out 2).trans rfl
    have k3 : W1.cell? ⟨W.heap.size, 3, none⟩ = some (.bool o3) := (blk_cell BK.out 3).trans rfl
    have k4 : W1.cell? ⟨W.heap.size, 4, none⟩ = some (.bool o4) := (blk_cell BK.out 4).trans rfl
    have k5 : W1.cell? ⟨W.heap.size, 5, none⟩ = some (.int .i64 o5) := (blk_cell BK.out 5).trans rfl
    have k6 : W1.cell? ⟨W.heap.size, 6, none⟩ = some (.int .i64 o6) := (blk_cell BK.out 6).trans rfl
    have k7 : W1.cell? ⟨W.heap.size, 7, none⟩ = some (.int .i64 o7) := (blk_cell BK.out 7).trans rfl
    have e0 : W1.cell? ⟨gr, 0, none⟩ = some (.int .i64 r0) := (blk_cell BR.out 0).trans rfl
    have e1 : W1.cell? ⟨gr, 1, none⟩ = some (.int .i64 r1) := (blk_cell BR.out 1).trans rfl
    have e2 : W1.cell? ⟨gr, 2, none⟩ = some (.int .i64 r2) := (blk_cell BR.out 2).trans rfl
    have e3 : W1.cell? ⟨gr, 3, none⟩ = some (.bool r3) := (blk_cell BR.out 3).trans rfl
    have e4 : W1.cell? ⟨gr, 4, none⟩ = some (.bool r4) := (blk_cell BR.out 4).trans rfl
    have e5 : W1.cell? ⟨gr, 5, none⟩ = some (.int .i64 r5) := (blk_cell BR.out 5).trans rfl
    have e6 : W1.cell? ⟨gr, 6, none⟩ = some (.int .i64 r6) := (blk_cell BR.out 6).trans rfl
    have e7 : W1.cell? ⟨gr, 7, none⟩ = some (.int .i64 r7) := (blk_cell BR.out 7).trans rfl
    clear hu
    cases o3 with
    | false =>
      rw [Bool.false_and] at hb
      subst hb
      go_wp2
      go_ret
      exact ⟨rfl, HW1.out⟩
    | true =>
      rw [Bool.true_and] at hb
      cases h1 : (o1 == r1) with
      | false =>
        rw [h1, Bool.false_and] at hb
        subst hb
        go_wp2
        go_ret
        exact ⟨rfl, HW1.out⟩
      | true =>
        rw [h1, Bool.true_and] at hb
        rw [Bool.true_and] at hb
        subst hb
        go_wp2_with fail
        (with_reducible refine (HF.out _ (HT.out.below HW1.out)).mono ?_)
        rintro e w2 ⟨rfl, hb2⟩
        go_wp2
        go_ret
        exact ⟨rfl, below_step HW1.out hb2⟩
  | some i =>
    have hil := HSI.out i rfl
    obtain ⟨ad, eA, s0, s1, s2, s3, s4, s5, s6, s7⟩ := at_T60 (HT.out.below (below_alloc (Below.refl _ _) (.cells #[.int .i64 o0, .int .i64 o1, .int .i64 o2, .bool o3, .bool o4, .int .i64 o5, .int .i64 o6, .int .i64 o7] 60))).row i (by omega) (by omega)
    rw [rd60_opAt hil, Int.toNat_natCast] at s0 s1 s2 s3 s4 s5 s6 s7
    have hsp : (some i).bind (ptrAt A) = some (ad.add (i * 8)) := by simp [ptrAt, eA]
    have p0 : (W.alloc (.cells #[.int .i64 o0, .int .i64 o1, .int .i64 o2, .bool o3, .bool o4, .int .i64 o5, .int .i64 o6, .int .i64 o7] 60)).cell? ⟨gs, 0, none⟩ = some (.pointer (some (ad.add (i * 8)))) := by rw [World.cell?_alloc_past _ _ _ hg1, ← hsp]; exact (blk_cell HS.out 0).trans rfl
    have HPi := Aside0.mk (HP.out i)
    obtain ⟨s, hsd⟩ : ∃ s, opAt ops i = s := ⟨_, rfl⟩
    simp only [hidesB] at hb
    rw [hsd] at s0 s1 s2 s3 s4 s5 s6 s7 hb HPi
    obtain ⟨z0, z1, z2, z3, z4, z5, z6, z7⟩ := s
    simp only at s0 s1 s2 s3 s4 s5 s6 s7 hb HPi
    have HBK := blk_new W (.cells #[.int .i64 o0, .int .i64 o1, .int .i64 o2, .bool o3, .bool o4, .int .i64 o5, .int .i64 o6, .int .i64 o7] 60)
    have k0 : (W.alloc (.cells #[.int .i64 o0, .int .i64 o1, .int .i64 o2, .bool o3, .bool o4, .int .i64 o5, .int .i64 o6, .int .i64 o7] 60)).cell? ⟨W.heap.size, 0, none⟩ = some (.int .i64 o0) := (blk_cell HBK 0).trans rfl
    have k1 : (W.alloc (.cells #[.int .i64 o0, .int .i64 o1, .int .i64 o2, .bool o3, .bool o4, .int .i64 o5, .int .i64 o6, .int .i64 o7] 60)).cell? ⟨W.heap.size, 1, none⟩ = some (.int .i64 o1) := (blk_cell HBK 1).trans rfl
    have k2 : (W.alloc (.cells #[.int .i64 o0, .int .i64 o1, .int .i64 o2, .bool o3, .bool o4, .int .i64 o5, .int .i64 o6, .int .i64 o7] 60)).cell? ⟨W.heap.size, 2, none⟩ = some (.int .i64 o2) := (blk_cell HBK 2).trans rfl
    have k3 : (W.alloc (.cells #[.int .i64 o0, .int .i64 o1, .int .i64 o2, .bool o3, .bool o4, .int .i64 o5, .int .i64 o6, .int .i64 o7] 60)).cell? ⟨W.heap.size, 3, none⟩ = some (.bool o3) := (blk_cell HBK 3).trans rfl
    have k4 : (W.alloc (.cells #[.int .i64 o0, .int .i64 o1, .int .i64 o2, .bool o3, .bool o4, .int .i64 o5, .int .i64 o6, .int .i64 o7] 60)).cell? ⟨W.heap.size, 4, none⟩ = some (.bool o4) := (blk_cell HBK 4).trans rfl
    have k5 : (W.alloc (.cells #[.int .i64 o0, .int .i64 o1, .int .i64 o2, .bool o3, .bool o4, .int .i64 o5, .int .i64 o6, .int .i64 o7] 60)).cell? ⟨W.heap.size, 5, none⟩ = some (.int .i64 o5) := (blk_cell HBK 5).trans rfl
    have k6 : (W.alloc (.cells #[.int .i64 o0, .int .i64 o1, .int .i64 o2, .bool o3, .bool o4, .int .i64 o5, .int .i64 o6, .int .i64 o7] 60)).cell? ⟨W.heap.size, 6, none⟩ = some (.int .i64 o6) := (blk_cell HBK 6).trans rfl
    have k7 : (W.alloc (.cells #[.int .i64 o0, .int .i64 o1, .int .i64 o2, .bool o3, .bool o4, .int .i64 o5, .int .i64 o6, .int .i64 o7] 60)).cell? ⟨W.heap.size, 7, none⟩ = some (.int .i64 o7) := (blk_cell HBK 7).trans rfl
    have y0 := after_cell s0
    have y1 := after_cell s1
    have y2 := after_cell s2
    have y3 := after_cell s3
    have y4 := after_cell s4
    have y5 := after_cell s5
    have y6 := after_cell s6
    have y7 := after_cell s7
    have x0 := after_cell k0
    have x1 := after_cell k1
    have x2 := after_cell k2
    have x3 := after_cell k3
    have x4 := after_cell k4
    have x5 := after_cell k5
    have x6 := after_cell k6
    have x7 := after_cell k7
    have q0 := after_cell p0
    clear hsp hsd HBK s0 s1 s2 s3 s4 s5 s6 s7 k0 k1 k2 k3 k4 k5 k6 k7 p0
    cases hp : precB ⟨z0, z1, z2, z3, z4, z5, z6, z7⟩ ⟨o0, o1, o2, o3, o4, o5, o6, o7⟩ with
    | true =>
      rw [hp] at hb HPi
      rw [Bool.true_or] at hb
      go_enter Try.func89, Try.ntmps89
      go_wp2
      refine region_after (by kernel_rfl) (by kernel_rfl) ?_
      repeat (quiet_step ((go_at_call 90; exact after_call (HPi.out _))))
      clear y0 y1 y2 y3 y4 y5 y6 y7 x0 x1 x2 x3 x4 x5 x6 x7 q0
      refine wpQuiet_nil ?_
      rintro _ ⟨u, rfl⟩
      obtain ⟨W1, hu⟩ := u
      simp only
      have HW1 := Aside0.mk (below_step (below_alloc (Below.refl W.heap.size W) (.cells #[.int .i64 o0, .int .i64 o1, .int .i64 o2, .bool o3, .bool o4, .int .i64 o5, .int .i64 o6, .int .i64 o7] 60)) hu)
      have BK := Aside0.mk (blk_old (blk_new W (.cells #[.int .i64 o0, .int .i64 o1, .int .i64 o2, .bool o3, .bool o4, .int .i64 o5, .int .i64 o6, .int .i64 o7] 60)) hu)
      have BR := Aside0.mk (blk_old HR.out HW1.out)
      have t0 : W1.cell? ⟨gt, 0, none⟩ = some (.pointer (some ⟨g, 0, none⟩)) := (blk_cell (blk_old HTT.out HW1.out) 0).trans rfl
      have k0 : W1.cell? ⟨W.heap.size, 0, none⟩ = some (.int .i64 o0) := (blk_cell BK.out 0).trans rfl
      have k1 : W1.cell? ⟨W.heap.size, 1, none⟩ = some (.int .i64 o1) := (blk_cell BK.out 1).trans rfl
      have k2 : W1.cell? ⟨W.heap.size, 2, none⟩ = some (.int .i64 o2) := (blk_cell BK.out 2).trans rfl
      have k3 : W1.cell? ⟨W.heap.size, 3, none⟩ = some (.bool o3) := (blk_cell BK.out 3).trans rfl
      have k4 : W1.cell? ⟨W.heap.size, 4, none⟩ = some (.bool o4) := (blk_cell BK.out 4).trans rfl
      have k5 : W1.cell? ⟨W.heap.size, 5, none⟩ = some (.int .i64 o5) := (blk_cell BK.out 5).trans rfl
      have k6 : W1.cell? ⟨W.heap.size, 6, none⟩ = some (.int .i64 o6) := (blk_cell BK.out 6).trans rfl
      have k7 : W1.cell? ⟨W.heap.size, 7, none⟩ = some (.int .i64 o7) := (blk_cell BK.out 7).trans rfl
      have e0 : W1.cell? ⟨gr, 0, none⟩ = some (.int .i64 r0) := (blk_cell BR.out 0).trans rfl
      have e1 : W1.cell? ⟨gr, 1, none⟩ = some (.int .i64 r1) := (blk_cell BR.out 1).trans rfl
      have e2 : W1.cell? ⟨gr, 2, none⟩ = some (.int .i64 r2) := (blk_cell BR.out 2).trans rfl
      have e3 : W1.cell? ⟨gr, 3, none⟩ = some (.bool r3) := (blk_cell BR.out 3).trans rfl
      have e4 : W1.cell? ⟨gr, 4, none⟩ = some (.bool r4) := (blk_cell BR.out 4).trans rfl
      have e5 : W1.cell? ⟨gr, 5, none⟩ = some (.int .i64 r5) := (blk_cell BR.out 5).trans rfl
      have e6 : W1.cell? ⟨gr, 6, none⟩ = some (.int .i64 r6) := (blk_cell BR.out 6).trans rfl
      have e7 : W1.cell? ⟨gr, 7, none⟩ = some (.int .i64 r7) := (blk_cell BR.out 7).trans rfl
      clear hu
      cases o3 with
      | false =>
        rw [Bool.false_and] at hb
        subst hb
        go_wp2
        go_ret
        exact ⟨rfl, HW1.out⟩
      | true =>
        rw [Bool.true_and] at hb
        cases h1 : (o1 == r1) with
        | false =>
          rw [h1, Bool.false_and] at hb
          subst hb
          go_wp2
          go_ret
          exact ⟨rfl, HW1.out⟩
        | true =>
          rw [h1, Bool.true_and] at hb
          rw [Bool.true_and] at hb
          subst hb
          go_wp2_with fail
          (with_reducible refine (HF.out _ (HT.out.below HW1.out)).mono ?_)
          rintro e w2 ⟨rfl, hb2⟩
          go_wp2
          go_ret
          exact ⟨rfl, below_step HW1.out hb2⟩
    | false =>
      rw [hp] at hb HPi
      rw [Bool.false_or] at hb
      cases h5 : decide (z5 < o5) with
      | true =>
        rw [h5] at hb
        go_enter Try.func89, Try.ntmps89
        go_wp2
        refine region_after (by kernel_rfl) (by kernel_rfl) ?_
        repeat (quiet_step ((go_at_call 90; exact after_call (HPi.out _))))
        clear y0 y1 y2 y3 y4 y5 y6 y7 x0 x1 x2 x3 x4 x5 x6 x7 q0
        refine wpQuiet_nil ?_
        rintro _ ⟨u, rfl⟩
        obtain ⟨W1, hu⟩ := u
        simp only
        have HW1 := Aside0.mk (below_step (below_alloc (Below.refl W.heap.size W) (.cells #[.int .i64 o0, .int .i64 o1, .int .i64 o2, .bool o3, .bool o4, .int .i64 o5, .int .i64 o6, .int .i64 o7] 60)) hu)
        have BK := Aside0.mk (blk_old (blk_new W (.cells #[.int .i64 o0, .int .i64 o1, .int .i64 o2, .bool o3, .bool o4, .int .i64 o5, .int .i64 o6, .int .i64 o7] 60)) hu)
        have BR := Aside0.mk (blk_old HR.out HW1.out)
        have t0 : W1.cell? ⟨gt, 0, none⟩ = some (.pointer (some ⟨g, 0, none⟩)) := (blk_cell (blk_old HTT.out HW1.out) 0).trans rfl
        have k0 : W1.cell? ⟨W.heap.size, 0, none⟩ = some (.int .i64 o0) := (blk_cell BK.out 0).trans rfl
        have k1 : W1.cell? ⟨W.heap.size, 1, none⟩ = some (.int .i64 o1) := (blk_cell BK.out 1).trans rfl
        have k2 : W1.cell? ⟨W.heap.size, 2, none⟩ = some (.int .i64 o2) := (blk_cell BK.out 2).trans rfl
        have k3 : W1.cell? ⟨W.heap.size, 3, none⟩ = some (.bool o3) := (blk_cell BK.out 3).trans rfl
        have k4 : W1.cell? ⟨W.heap.size, 4, none⟩ = some (.bool o4) := (blk_cell BK.out 4).trans rfl
        have k5 : W1.cell? ⟨W.heap.size, 5, none⟩ = some (.int .i64 o5) := (blk_cell BK.out 5).trans rfl
        have k6 : W1.cell? ⟨W.heap.size, 6, none⟩ = some (.int .i64 o6) := (blk_cell BK.out 6).trans rfl
        have k7 : W1.cell? ⟨W.heap.size, 7, none⟩ = some (.int .i64 o7) := (blk_cell BK.out 7).trans rfl
        have e0 : W1.cell? ⟨gr, 0, none⟩ = some (.int .i64 r0) := (blk_cell BR.out 0).trans rfl
        have e1 : W1.cell? ⟨gr, 1, none⟩ = some (.int .i64 r1) := (blk_cell BR.out 1).trans rfl
        have e2 : W1.cell? ⟨gr, 2, none⟩ = some (.int .i64 r2) := (blk_cell BR.out 2).trans rfl
        have e3 : W1.cell? ⟨gr, 3, none⟩ = some (.bool r3) := (blk_cell BR.out 3).trans rfl
        have e4 : W1.cell? ⟨gr, 4, none⟩ = some (.bool r4) := (blk_cell BR.out 4).trans rfl
        have e5 : W1.cell? ⟨gr, 5, none⟩ = some (.int .i64 r5) := (blk_cell BR.out 5).trans rfl
        have e6 : W1.cell? ⟨gr, 6, none⟩ = some (.int .i64 r6) := (blk_cell BR.out 6).trans rfl
        have e7 : W1.cell? ⟨gr, 7, none⟩ = some (.int .i64 r7) := (blk_cell BR.out 7).trans rfl
        clear hu
        cases o3 with
        | false =>
          rw [Bool.false_and] at hb
          subst hb
          go_wp2
          go_ret
          exact ⟨rfl, HW1.out⟩
        | true =>
          rw [Bool.true_and] at hb
          cases h1 : (o1 == r1) with
          | false =>
            rw [h1, Bool.false_and] at hb
            subst hb
            go_wp2
            go_ret
            exact ⟨rfl, HW1.out⟩
          | true =>
            rw [h1, Bool.true_and] at hb
            rw [Bool.true_and] at hb
            subst hb
            go_wp2_with fail
            (with_reducible refine (HF.out _ (HT.out.below HW1.out)).mono ?_)
            rintro e w2 ⟨rfl, hb2⟩
            go_wp2
            go_ret
            exact ⟨rfl, below_step HW1.out hb2⟩
      | false =>
        rw [h5] at hb
        go_enter Try.func89, Try.ntmps89
        go_wp2
        refine region_after (by kernel_rfl) (by kernel_rfl) ?_
        repeat (quiet_step ((go_at_call 90; exact after_call (HPi.out _))))
        clear y0 y1 y2 y3 y4 y5 y6 y7 x0 x1 x2 x3 x4 x5 x6 x7 q0
        refine wpQuiet_nil ?_
        rintro _ ⟨u, rfl⟩
        obtain ⟨W1, hu⟩ := u
        simp only
        have HW1 := Aside0.mk (below_step (below_alloc (Below.refl W.heap.size W) (.cells #[.int .i64 o0, .int .i64 o1, .int .i64 o2, .bool o3, .bool o4, .int .i64 o5, .int .i64 o6, .int .i64 o7] 60)) hu)
        have BK := Aside0.mk (blk_old (blk_new W (.cells #[.int .i64 o0, .int .i64 o1, .int .i64 o2, .bool o3, .bool o4, .int .i64 o5, .int .i64 o6, .int .i64 o7] 60)) hu)
        have BR := Aside0.mk (blk_old HR.out HW1.out)
        have t0 : W1.cell? ⟨gt, 0, none⟩ = some (.pointer (some ⟨g, 0, none⟩)) := (blk_cell (blk_old HTT.out HW1.out) 0).trans rfl
        have k0 : W1.cell? ⟨W.heap.size, 0, none⟩ = some (.int .i64 o0) := (blk_cell BK.out 0).trans rfl
        have k1 : W1.cell? ⟨W.heap.size, 1, none⟩ = some (.int .i64 o1) := (blk_cell BK.out 1).trans rfl
        have k2 : W1.cell? ⟨W.heap.size, 2, none⟩ = some (.int .i64 o2) := (blk_cell BK.out 2).trans rfl
        have k3 : W1.cell? ⟨W.heap.size, 3, none⟩ = some (.bool o3) := (blk_cell BK.out 3).trans rfl
        have k4 : W1.cell? ⟨W.heap.size, 4, none⟩ = some (.bool o4) := (blk_cell BK.out 4).trans rfl
        have k5 : W1.cell? ⟨W.heap.size, 5, none⟩ = some (.int .i64 o5) := (blk_cell BK.out 5).trans rfl
        have k6 : W1.cell? ⟨W.heap.size, 6, none⟩ = some (.int .i64 o6) := (blk_cell BK.out 6).trans rfl
        have k7 : W1.cell? ⟨W.heap.size, 7, none⟩ = some (.int .i64 o7) := (blk_cell BK.out 7).trans rfl
        have e0 : W1.cell? ⟨gr, 0, none⟩ = some (.int .i64 r0) := (blk_cell BR.out 0).trans rfl
        have e1 : W1.cell? ⟨gr, 1, none⟩ = some (.int .i64 r1) := (blk_cell BR.out 1).trans rfl
        have e2 : W1.cell? ⟨gr, 2, none⟩ = some (.int .i64 r2) := (blk_cell BR.out 2).trans rfl
        have e3 : W1.cell? ⟨gr, 3, none⟩ = some (.bool r3) := (blk_cell BR.out 3).trans rfl
        have e4 : W1.cell? ⟨gr, 4, none⟩ = some (.bool r4) := (blk_cell BR.out 4).trans rfl
        have e5 : W1.cell? ⟨gr, 5, none⟩ = some (.int .i64 r5) := (blk_cell BR.out 5).trans rfl
        have e6 : W1.cell? ⟨gr, 6, none⟩ = some (.int .i64 r6) := (blk_cell BR.out 6).trans rfl
        have e7 : W1.cell? ⟨gr, 7, none⟩ = some (.int .i64 r7) := (blk_cell BR.out 7).trans rfl
        clear hu
        cases o3 with
        | false =>
          rw [Bool.false_and] at hb
          subst hb
          go_wp2
          go_ret
          exact ⟨rfl, HW1.out⟩
        | true =>
          rw [Bool.true_and] at hb
          cases h1 : (o1 == r1) with
          | false =>
            rw [h1, Bool.false_and] at hb
            subst hb
            go_wp2
            go_ret
            exact ⟨rfl, HW1.out⟩
          | true =>
            rw [h1, Bool.true_and] at hb
            rw [Bool.false_and] at hb
            subst hb
            go_wp2
            go_ret
            exact ⟨rfl, HW1.out⟩
end Go.Proofs.Ytidghmgaaenihaa.Q
