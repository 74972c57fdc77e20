/- The Go method judge of a trace. -/
import Derived.Test.YtidghmgaaenihaaHJudge
namespace Go.Proofs.Ytidghmgaaenihaa.Q
open Go.RowKit Go.Proofs.YtidghmgaaenihaaW.PrintWords Go.Proofs.YtidghmgaaenihaaW.PrintLast Go.Proofs.YtidghmgaaenihaaW.PrintMore
set_option linter.unusedVariables false
set_option linter.unusedSimpArgs false

/-- What is wrong about a read, if it is not seen by its source alone. -/
def judgeS (ops : List S60) (sv : List (Int × Bool)) (r : S60) (si : Option Nat) : S33 × Bool :=
  if idxOf ops (staleB ops sv r si) < 0 then (⟨0, 0, 0⟩, false) else (⟨3, r.f0, (rd_T60 ops (idxOf ops (staleB ops sv r si))).f0⟩, true)
def judgeB (ops : List S60) (sv : List (Int × Bool)) (r : S60) : S33 × Bool :=
  match srcIx ops r.f1 r.f2 with
  | none => if r.f2 = 0 then judgeS ops sv r none else (⟨1, r.f0, -1⟩, true)
  | some i => if r.f7 < (opAt ops i).f6 then (⟨2, r.f0, (opAt ops i).f0⟩, true) else judgeS ops sv r (some i)
theorem blk_new2 (w : World) (o o' o'' : Obj) : (((w.alloc o).alloc o').alloc o'').heap[w.heap.size + 1 + 1]? = some o'' := by
  have h : (w.alloc o).heap.size = w.heap.size + 1 := by show (w.heap.push o).size = _; simp
  have := blk_new1 (w.alloc o) o' o''
  rwa [h] at this
theorem pred89 (r : S60) (gs gr gt g : Nat) {A : Option Addr} {c : Nat} {ops : List S60} {B1 B2 : Nat} {sv : List (Int × Bool)} (si : Option Nat) (hsi : ∀ i, si = some i → i < ops.length) (sp : Option Addr) (hsp : sp = si.bind (ptrAt A)) :
    Pred60 89 #[.pointer (some ⟨gs, 0, none⟩), .pointer (some ⟨gr, 0, none⟩), .pointer (some ⟨gt, 0, none⟩)] (staleB ops sv r si)
    (fun W => W.heap[gs]? = some (.cells #[.pointer sp] 113 (0, 0)) ∧ W.heap[gr]? = some (.cells #[.int .i64 r.f0, .int .i64 r.f1, .int .i64 r.f2, .bool r.f3, .bool r.f4, .int .i64 r.f5, .int .i64 r.f6, .int .i64 r.f7] 60 (0, 0)) ∧
      W.heap[gt]? = some (.cells #[.pointer (some ⟨g, 0, none⟩)] 84 (0, 0)) ∧ Trace W g A c ops B1 B2 sv) where
  enters args w := enters_ Try.func89 (by kernel_rfl) rfl args w
  calls o W h := judge1_calls r o W gs gr gt g si hsi (by rw [← hsp]; exact h.1) h.2.1 h.2.2.1 h.2.2.2
  stays W W' h hb := ⟨blk_old h.1 hb, blk_old h.2.1 hb, blk_old h.2.2.1 hb, h.2.2.2.below hb⟩

theorem results55_run {tmps : Array Value} {W : World} {gf : Nat} {x0 x1 x2 : Int} {b : Bool} (h4 : tmps.getD 4 undef = .pointer (some ⟨gf, 0, none⟩)) (h5 : tmps.getD 5 undef = .bool b) (hb : W.heap[gf]? = some (.cells #[.int .i64 x0, .int .i64 x1, .int .i64 x2] 33 (0, 0))) :
    (results Try.f55 tmps).run Try.prog W = .ok (.tuple #[.agg #[.int .i64 x0, .int .i64 x1, .int .i64 x2], .bool b]) W := by
  have c0 : W.cell? ⟨gf, 0, none⟩ = some (.int .i64 x0) := (blk_cell hb 0).trans rfl
  have c1 : W.cell? ⟨gf, 1, none⟩ = some (.int .i64 x1) := (blk_cell hb 1).trans rfl
  have c2 : W.cell? ⟨gf, 2, none⟩ = some (.int .i64 x2) := (blk_cell hb 2).trans rfl
  rw [Array.getD_eq_getD_getElem?] at h4 h5
  simp [results, Try.results55, go_sem, h4, h5, c0, c1, c2]

theorem idxOf_range (ops : List S60) (p : S60 → Bool) : -1 ≤ idxOf ops p ∧ idxOf ops p < ops.length := by
  unfold idxOf
  cases h : ops.findIdx? p with
  | none => simp only; omega
  | some i => have := (List.findIdx?_eq_some_iff_getElem.1 h).1; simp only; omega
def JudgePost (x : S33 × Bool) (w : World) (e : Ending) (w' : World) : Prop := e = .returned (.tuple #[.agg #[.int .i64 x.1.f0, .int .i64 x.1.f1, .int .i64 x.1.f2], .bool x.2]) ∧ Below w.heap.size w w'
set_option maxHeartbeats 4000000 in
set_option maxRecDepth 100000 in
theorem judge_any (r : S60) (w : World) {g : Nat} {A : Option Addr} {c : Nat} {ops : List S60} {B1 B2 : Nat} {sv : List (Int × Bool)} (h : Trace w g A c ops B1 B2 sv) :
    Calls Try.prog 55 #[.pointer (some ⟨g, 0, none⟩), .agg #[.int .i64 r.f0, .int .i64 r.f1, .int .i64 r.f2, .bool r.f3, .bool r.f4, .int .i64 r.f5, .int .i64 r.f6, .int .i64 r.f7]] w (JudgePost (judgeB ops sv r) w) := by
  have HT := Aside0.mk h
  clear h
  have HPR := Aside0.mk (fun gs gr gt si hsi sp hsp => pred89 r gs gr gt g (A := A) (c := c) (ops := ops) (B1 := B1) (B2 := B2) (sv := sv) si hsi sp hsp)
  obtain ⟨x, hx⟩ : ∃ x, judgeB ops sv r = x := ⟨_, rfl⟩
  rw [hx]
  unfold judgeB judgeS at hx
  obtain ⟨pf, hpf⟩ : ∃ pf, staleB ops sv r = pf := ⟨_, rfl⟩
  rw [hpf] at hx HPR
  clear hpf
  have HX := Aside0.mk hx
  clear hx
  obtain ⟨r0, r1, r2, r3, r4, r5, r6, r7⟩ := r
  simp only at HX HPR ⊢
  go_enter Try.func55, Try.ntmps55
  go_wp2_with fail
  (with_reducible refine (source_any r0 r1 r2 r3 r4 r5 r6 r7 _ (HT.out.below (below_alloc (below_alloc (below_alloc (Below.refl _ _) _) _) _))).mono ?_)
  rintro e w1 ⟨rfl, hb1⟩
  have hW1 := Aside0.mk (below_step (below_alloc (below_alloc (below_alloc (Below.refl w.heap.size w) _) _) _) hb1)
  have BT := Aside0.mk (blk_old (blk_old (blk_old (blk_new w (.cells #[.pointer (some ⟨g, 0, none⟩)] 84)) (below_alloc (Below.refl _ _) _)) (below_alloc (Below.refl _ _) _)) hb1)
  have BR := Aside0.mk (blk_old (blk_old (blk_new1 w _ (.cells #[.int .i64 r0, .int .i64 r1, .int .i64 r2, .bool r3, .bool r4, .int .i64 r5, .int .i64 r6, .int .i64 r7] 60)) (below_alloc (Below.refl _ _) _)) hb1)
  have BF := Aside0.mk (blk_old (blk_new2 w _ _ (.cells #[.int .i64 0, .int .i64 0, .int .i64 0] 33)) hb1)
  have hsz : w.heap.size + 1 + 1 < w1.heap.size := (Array.getElem?_eq_some_iff.1 BF.out).1
  have hsz1 : w.heap.size + 1 < w1.heap.size := by omega
  have hsz0 : w.heap.size < w1.heap.size := by omega
  clear hb1
  have e0 : w1.cell? ⟨w.heap.size + 1, 0, none⟩ = some (.int .i64 r0) := (blk_cell BR.out 0).trans rfl
  have e1 : w1.cell? ⟨w.heap.size + 1, 1, none⟩ = some (.int .i64 r1) := (blk_cell BR.out 1).trans rfl
  have e2 : w1.cell? ⟨w.heap.size + 1, 2, none⟩ = some (.int .i64 r2) := (blk_cell BR.out 2).trans rfl
  have e3 : w1.cell? ⟨w.heap.size + 1, 3, none⟩ = some (.bool r3) := (blk_cell BR.out 3).trans rfl
  have e4 : w1.cell? ⟨w.heap.size + 1, 4, none⟩ = some (.bool r4) := (blk_cell BR.out 4).trans rfl
  have e5 : w1.cell? ⟨w.heap.size + 1, 5, none⟩ = some (.int .i64 r5) := (blk_cell BR.out 5).trans rfl
  have e6 : w1.cell? ⟨w.heap.size + 1, 6, none⟩ = some (.int .i64 r6) := (blk_cell BR.out 6).trans rfl
  have e7 : w1.cell? ⟨w.heap.size + 1, 7, none⟩ = some (.int .i64 r7) := (blk_cell BR.out 7).trans rfl
  have t0 : w1.cell? ⟨w.heap.size, 0, none⟩ = some (.pointer (some ⟨g, 0, none⟩)) := (blk_cell BT.out 0).trans rfl
  have f0 : w1.cell? ⟨w.heap.size + 1 + 1, 0, none⟩ = some (.int .i64 0) := (blk_cell BF.out 0).trans rfl
  have f1 : w1.cell? ⟨w.heap.size + 1 + 1, 1, none⟩ = some (.int .i64 0) := (blk_cell BF.out 1).trans rfl
  have f2 : w1.cell? ⟨w.heap.size + 1 + 1, 2, none⟩ = some (.int .i64 0) := (blk_cell BF.out 2).trans rfl
  have z0 : w1.frozen? ⟨w.heap.size + 1 + 1, 0, none⟩ = false := blk_frozen BF.out 0
  have z1 : w1.frozen? ⟨w.heap.size + 1 + 1, 1, none⟩ = false := blk_frozen BF.out 1
  have z2 : w1.frozen? ⟨w.heap.size + 1 + 1, 2, none⟩ = false := blk_frozen BF.out 2
  cases hs : srcIx ops r1 r2 with
  | none =>
    have hx := HX.out
    rw [hs] at hx
    simp only at hx
    rw [srcP_none hs]
    clear HX
    by_cases h2 : r2 = 0
    · subst h2
      rw [if_pos rfl] at hx
      have HSI := Aside0.mk (show ∀ i, (none : Option Nat) = some i → i < ops.length from fun _ h => by cases h)
      clear hs
      go_wp2_with fail
      go_quiet (fail)
      have hS := Aside0.mk (show Below w1.heap.size w1 ((w1.alloc (.cells #[.pointer none] 113)).drewN nq) from pw_below_drewN (below_alloc (Below.refl _ _) _) _)
      have BS := Aside0.mk (show ((w1.alloc (.cells #[.pointer none] 113)).drewN nq).heap[w1.heap.size]? = some (.cells #[.pointer none] 113 (0, 0)) from blk_old (blk_new w1 _) (pw_below_drewN (Below.refl _ _) _))
      generalize (w1.alloc (.cells #[.pointer none] 113)).drewN nq = w2 at hS BS ⊢
      have HB2 := Aside0.mk (below_step hW1.out hS.out)
      have HT2 := Aside0.mk (HT.out.below HB2.out)
      have BT2 := Aside0.mk (blk_old BT.out hS.out)
      have BR2 := Aside0.mk (blk_old BR.out hS.out)
      have BF2 := Aside0.mk (blk_old BF.out hS.out)
      clear e0 e1 e2 e3 e4 e5 e6 e7 t0 f0 f1 f2 z0 z1 z2
      have t0 : w2.cell? ⟨w.heap.size, 0, none⟩ = some (.pointer (some ⟨g, 0, none⟩)) := (blk_cell BT2.out 0).trans rfl
      have t1 : w2.cell? ⟨g, 0, none⟩ = some (.slice A ops.length c) := (blk_cell HT2.out.blk 0).trans rfl
      go_wp2_with fail
      (with_reducible refine (index60 89 _ _ _ (HPR.out w1.heap.size (w.heap.size + 1) w.heap.size none HSI.out none rfl) A c ops _ HT2.out.row HT2.out.cap HT2.out.size ⟨BS.out, BR2.out, BT2.out, HT2.out⟩).mono ?_)
      rintro e w3 ⟨rfl, hb3⟩
      have HB3 := Aside0.mk (below_step HB2.out hb3)
      have HT3 := Aside0.mk (HT2.out.below hb3)
      have BT3 := Aside0.mk (blk_old BT2.out hb3)
      have BR3 := Aside0.mk (blk_old BR2.out hb3)
      have BF3 := Aside0.mk (blk_old BF2.out hb3)
      clear hb3 t0 t1
      have hir := idxOf_range ops (pf none)
      obtain ⟨ix, hix⟩ : ∃ ix, idxOf ops (pf none) = ix := ⟨_, rfl⟩
      rw [hix] at hx hir ⊢
      clear hix
      have f0 : w3.cell? ⟨w.heap.size + 1 + 1, 0, none⟩ = some (.int .i64 0) := (blk_cell BF3.out 0).trans rfl
      have f1 : w3.cell? ⟨w.heap.size + 1 + 1, 1, none⟩ = some (.int .i64 0) := (blk_cell BF3.out 1).trans rfl
      have f2 : w3.cell? ⟨w.heap.size + 1 + 1, 2, none⟩ = some (.int .i64 0) := (blk_cell BF3.out 2).trans rfl
      have z0 : w3.frozen? ⟨w.heap.size + 1 + 1, 0, none⟩ = false := blk_frozen BF3.out 0
      have z1 : w3.frozen? ⟨w.heap.size + 1 + 1, 1, none⟩ = false := blk_frozen BF3.out 1
      have z2 : w3.frozen? ⟨w.heap.size + 1 + 1, 2, none⟩ = false := blk_frozen BF3.out 2
      by_cases hneg : ix < 0
      · rw [if_pos hneg] at hx
        subst hx
        go_wp2
        refine bodyPost_ret (v := .tuple #[.agg #[.int .i64 0, .int .i64 0, .int .i64 0], .bool false]) (results55_run rfl rfl (blk_put (blk_put (blk_put BF3.out 0 _ rfl) 1 _ rfl) 2 _ rfl)) rfl ⟨rfl, ?_⟩
        exact below_set (below_set (below_set HB3.out (by omega)) (by omega)) (by omega)
      · rw [if_neg hneg] at hx
        obtain ⟨ad, eA, g0, _⟩ := at_T60 HT3.out.row ix (by omega) hir.2
        have e0 : w3.cell? ⟨w.heap.size + 1, 0, none⟩ = some (.int .i64 r0) := (blk_cell BR3.out 0).trans rfl
        have t0 : w3.cell? ⟨w.heap.size, 0, none⟩ = some (.pointer (some ⟨g, 0, none⟩)) := (blk_cell BT3.out 0).trans rfl
        have t1 : w3.cell? ⟨g, 0, none⟩ = some (.slice (some ad) ops.length c) := by rw [← eA]; exact (blk_cell HT3.out.blk 0).trans rfl
        obtain ⟨oid, HOID⟩ : ∃ oid, Aside0 ((rd_T60 ops ix).f0 = oid) := ⟨_, ⟨rfl⟩⟩
        rw [HOID.out] at g0 hx
        have hix0 : 0 ≤ ix := by omega
        have hixl : ix < (ops.length : Int) := hir.2
        subst hx
        clear hir eA
        go_wp2_with fail
        go_region
        all_goals go_wp2
        all_goals refine bodyPost_ret (v := .tuple #[.agg #[.int .i64 3, .int .i64 r0, .int .i64 oid], .bool true]) (results55_run rfl rfl (blk_old (blk_put (blk_put (blk_put BF3.out 0 _ rfl) 1 _ rfl) 2 _ rfl) (below_drew (Below.refl _ _)))) rfl ⟨rfl, ?_⟩
        all_goals exact below_drew (below_set (below_set (below_set HB3.out (by omega)) (by omega)) (by omega))
    · rw [if_neg h2] at hx
      subst hx
      have h2' : (r2 != 0) = true := by simpa using h2
      go_wp2
      refine bodyPost_ret (v := .tuple #[.agg #[.int .i64 1, .int .i64 r0, .int .i64 (-1)], .bool true]) (results55_run rfl rfl (blk_old (blk_put (blk_put (blk_put BF.out 0 _ rfl) 1 _ rfl) 2 _ rfl) (below_alloc (Below.refl _ _) _))) rfl ⟨rfl, ?_⟩
      exact below_alloc (below_set (below_set (below_set hW1.out (by omega)) (by omega)) (by omega)) _
  | some i =>
    have hx := HX.out
    rw [hs] at hx
    simp only at hx
    have hil := (src_lt hs).1
    have HT1 := Aside0.mk (HT.out.below hW1.out)
    obtain ⟨ad, eA, s0, s1, s2, s3, s4, s5, s6, s7⟩ := at_T60 HT1.out.row i (by omega) (by omega)
    subst eA
    rw [rd60_opAt hil, Int.toNat_natCast] at s0 s6
    rw [Int.toNat_natCast] at s1
    have hsp : srcP (some ad) ops r1 r2 = some (ad.add (i * 8)) := by simp [srcP, hs, ptrAt]
    rw [hsp]
    have HSP := Aside0.mk (show some (ad.add (i * 8)) = (some i).bind (ptrAt (some ad)) by simp [ptrAt])
    have HSI := Aside0.mk (show ∀ k, some i = some k → k < ops.length from fun k h => by cases h; exact hil)
    have hbl : (ad.add (i * 8)).block < w1.heap.size := World.block_lt_of_cell? _ _ s0
    obtain ⟨sid, HSID⟩ : ∃ x, Aside0 ((opAt ops i).f0 = x) := ⟨_, ⟨rfl⟩⟩
    obtain ⟨sca, HSCA⟩ : ∃ x, Aside0 ((opAt ops i).f6 = x) := ⟨_, ⟨rfl⟩⟩
    rw [HSID.out] at s0
    rw [HSCA.out] at s6
    rw [HSID.out, HSCA.out] at hx
    have HS0 := Aside0.mk s0
    clear HX hs hsp s0 s1 s2 s3 s4 s5 s7
    by_cases he : r7 < sca
    · have he' : decide (r7 < sca) = true := by simpa using he
      rw [if_pos he] at hx
      subst hx
      go_wp2_with fail
      go_quiet (fail)
      have hS := Aside0.mk (show Below w1.heap.size w1 ((w1.alloc (.cells #[.pointer (some (ad.add (i * 8)))] 113)).drewN nq) from pw_below_drewN (below_alloc (Below.refl _ _) _) _)
      have BS := Aside0.mk (show ((w1.alloc (.cells #[.pointer (some (ad.add (i * 8)))] 113)).drewN nq).heap[w1.heap.size]? = some (.cells #[.pointer (some (ad.add (i * 8)))] 113 (0, 0)) from blk_old (blk_new w1 _) (pw_below_drewN (Below.refl _ _) _))
      generalize (w1.alloc (.cells #[.pointer (some (ad.add (i * 8)))] 113)).drewN nq = w2 at hS BS ⊢
      have HB2 := Aside0.mk (below_step hW1.out hS.out)
      have HT2 := Aside0.mk (HT.out.below HB2.out)
      have BT2 := Aside0.mk (blk_old BT.out hS.out)
      have BR2 := Aside0.mk (blk_old BR.out hS.out)
      have BF2 := Aside0.mk (blk_old BF.out hS.out)
      have s0 : w2.cell? (ad.add (i * 8)) = some (.int .i64 sid) := (hS.out.cell hbl).trans HS0.out
      have g1 : w2.cell? ⟨w1.heap.size, 0, none⟩ = some (.pointer (some (ad.add (i * 8)))) := (blk_cell BS.out 0).trans rfl
      clear e0 e1 e2 e3 e4 e5 e6 e7 t0 f0 f1 f2 z0 z1 z2 s6
      have e0 : w2.cell? ⟨w.heap.size + 1, 0, none⟩ = some (.int .i64 r0) := (blk_cell BR2.out 0).trans rfl
      have f0 : w2.cell? ⟨w.heap.size + 1 + 1, 0, none⟩ = some (.int .i64 0) := (blk_cell BF2.out 0).trans rfl
      have f1 : w2.cell? ⟨w.heap.size + 1 + 1, 1, none⟩ = some (.int .i64 0) := (blk_cell BF2.out 1).trans rfl
      have f2 : w2.cell? ⟨w.heap.size + 1 + 1, 2, none⟩ = some (.int .i64 0) := (blk_cell BF2.out 2).trans rfl
      have z0 : w2.frozen? ⟨w.heap.size + 1 + 1, 0, none⟩ = false := blk_frozen BF2.out 0
      have z1 : w2.frozen? ⟨w.heap.size + 1 + 1, 1, none⟩ = false := blk_frozen BF2.out 1
      have z2 : w2.frozen? ⟨w.heap.size + 1 + 1, 2, none⟩ = false := blk_frozen BF2.out 2
      go_wp2_with fail
      go_region
      all_goals go_wp2
      all_goals refine bodyPost_ret (v := .tuple #[.agg #[.int .i64 2, .int .i64 r0, .int .i64 sid], .bool true]) (results55_run rfl rfl (blk_old (blk_put (blk_put (blk_put BF2.out 0 _ rfl) 1 _ rfl) 2 _ rfl) (below_drew (Below.refl _ _)))) rfl ⟨rfl, ?_⟩
      all_goals exact below_drew (below_set (below_set (below_set HB2.out (by omega)) (by omega)) (by omega))
    · rw [if_neg he] at hx
      have he' : decide (r7 < sca) = false := by simpa using he
      go_wp2_with fail
      go_quiet (fail)
      have hS := Aside0.mk (show Below w1.heap.size w1 ((w1.alloc (.cells #[.pointer (some (ad.add (i * 8)))] 113)).drewN nq) from pw_below_drewN (below_alloc (Below.refl _ _) _) _)
      have BS := Aside0.mk (show ((w1.alloc (.cells #[.pointer (some (ad.add (i * 8)))] 113)).drewN nq).heap[w1.heap.size]? = some (.cells #[.pointer (some (ad.add (i * 8)))] 113 (0, 0)) from blk_old (blk_new w1 _) (pw_below_drewN (Below.refl _ _) _))
      generalize (w1.alloc (.cells #[.pointer (some (ad.add (i * 8)))] 113)).drewN nq = w2 at hS BS ⊢
      have HB2 := Aside0.mk (below_step hW1.out hS.out)
      have HT2 := Aside0.mk (HT.out.below HB2.out)
      have BT2 := Aside0.mk (blk_old BT.out hS.out)
      have BR2 := Aside0.mk (blk_old BR.out hS.out)
      have BF2 := Aside0.mk (blk_old BF.out hS.out)
      clear e0 e1 e2 e3 e4 e5 e6 e7 t0 f0 f1 f2 z0 z1 z2 s6
      have t0 : w2.cell? ⟨w.heap.size, 0, none⟩ = some (.pointer (some ⟨g, 0, none⟩)) := (blk_cell BT2.out 0).trans rfl
      have t1 : w2.cell? ⟨g, 0, none⟩ = some (.slice (some ad) ops.length c) := (blk_cell HT2.out.blk 0).trans rfl
      go_wp2_with fail
      (with_reducible refine (index60 89 _ _ _ (HPR.out w1.heap.size (w.heap.size + 1) w.heap.size (some i) HSI.out (some (ad.add (i * 8))) HSP.out) (some ad) c ops _ HT2.out.row HT2.out.cap HT2.out.size ⟨BS.out, BR2.out, BT2.out, HT2.out⟩).mono ?_)
      rintro e w3 ⟨rfl, hb3⟩
      have HB3 := Aside0.mk (below_step HB2.out hb3)
      have HT3 := Aside0.mk (HT2.out.below hb3)
      have BT3 := Aside0.mk (blk_old BT2.out hb3)
      have BR3 := Aside0.mk (blk_old BR2.out hb3)
      have BF3 := Aside0.mk (blk_old BF2.out hb3)
      clear hb3 t0 t1
      have hir := idxOf_range ops (pf (some i))
      obtain ⟨ix, hix⟩ : ∃ ix, idxOf ops (pf (some i)) = ix := ⟨_, rfl⟩
      rw [hix] at hx hir ⊢
      clear hix
      have f0 : w3.cell? ⟨w.heap.size + 1 + 1, 0, none⟩ = some (.int .i64 0) := (blk_cell BF3.out 0).trans rfl
      have f1 : w3.cell? ⟨w.heap.size + 1 + 1, 1, none⟩ = some (.int .i64 0) := (blk_cell BF3.out 1).trans rfl
      have f2 : w3.cell? ⟨w.heap.size + 1 + 1, 2, none⟩ = some (.int .i64 0) := (blk_cell BF3.out 2).trans rfl
      have z0 : w3.frozen? ⟨w.heap.size + 1 + 1, 0, none⟩ = false := blk_frozen BF3.out 0
      have z1 : w3.frozen? ⟨w.heap.size + 1 + 1, 1, none⟩ = false := blk_frozen BF3.out 1
      have z2 : w3.frozen? ⟨w.heap.size + 1 + 1, 2, none⟩ = false := blk_frozen BF3.out 2
      by_cases hneg : ix < 0
      · rw [if_pos hneg] at hx
        subst hx
        go_wp2
        refine bodyPost_ret (v := .tuple #[.agg #[.int .i64 0, .int .i64 0, .int .i64 0], .bool false]) (results55_run rfl rfl (blk_put (blk_put (blk_put BF3.out 0 _ rfl) 1 _ rfl) 2 _ rfl)) rfl ⟨rfl, ?_⟩
        exact below_set (below_set (below_set HB3.out (by omega)) (by omega)) (by omega)
      · rw [if_neg hneg] at hx
        obtain ⟨ad', eA, g0, _⟩ := at_T60 HT3.out.row ix (by omega) hir.2
        have e0 : w3.cell? ⟨w.heap.size + 1, 0, none⟩ = some (.int .i64 r0) := (blk_cell BR3.out 0).trans rfl
        have t0 : w3.cell? ⟨w.heap.size, 0, none⟩ = some (.pointer (some ⟨g, 0, none⟩)) := (blk_cell BT3.out 0).trans rfl
        have t1 : w3.cell? ⟨g, 0, none⟩ = some (.slice (some ad) ops.length c) := by exact (blk_cell HT3.out.blk 0).trans rfl
        obtain ⟨oid, HOID⟩ : ∃ oid, Aside0 ((rd_T60 ops ix).f0 = oid) := ⟨_, ⟨rfl⟩⟩
        rw [HOID.out] at g0 hx
        have hix0 : 0 ≤ ix := by omega
        have hixl : ix < (ops.length : Int) := hir.2
        subst hx
        cases eA
        clear hir
        go_wp2_with fail
        go_region
        all_goals go_wp2
        all_goals refine bodyPost_ret (v := .tuple #[.agg #[.int .i64 3, .int .i64 r0, .int .i64 oid], .bool true]) (results55_run rfl rfl (blk_old (blk_put (blk_put (blk_put BF3.out 0 _ rfl) 1 _ rfl) 2 _ rfl) (below_drew (Below.refl _ _)))) rfl ⟨rfl, ?_⟩
        all_goals exact below_drew (below_set (below_set (below_set HB3.out (by omega)) (by omega)) (by omega))
end Go.Proofs.Ytidghmgaaenihaa.Q
